/- Part 14. -/
import Derived.Test.YtkknkmdpelogmaaGreatDoorPart13
set_option linter.unusedVariables false
set_option linter.unusedSimpArgs false
variable {r1 r2 r3 r4 r5 r6 r7 r9 r10 r11 r12:Int}
section
namespace Go.Px
set_option maxRecDepth 100000
theorem Vf{N:Nat}{r8:Bool}{r0:ByteArray}{r13:Rows}{L:Rows}(hN:2097152<N)(hs:r0.size≤1048576)(h13:r13.length≤1048576)(hL:L.length≤1048576):DB N [.str r0,.int r1,.int r2,.int r3,.int r4,.int r5,.int r6,.int r7,.bool r8,.int r9,.int r10,.int r11,.int r12,.rows r13,.rows L]=some (mr (DU (⟨r0,r1,r2,r3,r4,r5,r6,r7,r8,r9,r10,r11,r12,r13⟩:Rul) L)):=by
 show LN (std (F4 N) N) (xOf _)=_;generalize hres:(some (mr (DU (⟨r0,r1,r2,r3,r4,r5,r6,r7,r8,r9,r10,r11,r12,r13⟩:Rul) L)):Option (List PV))=RR;simp only[LN,Yq,lq9,std,xOf,PXb,Je hN hs h13 hL];trivial
def Ah(r:Rul)(L:Rows):Int:=cond (!(B8 r==0)) (B8 r) (cond (iLt 4000 (L.length:Int)) 9 (cond (!((DU r L).2.2==0)) 10 0))
theorem Hw{N:Nat}{r8:Bool}{r0:ByteArray}{r13:Rows}{L:Rows}(hN:2097152<N)(hs:r0.size≤1048576)(h13:r13.length≤1048576)(hL:L.length≤1048576):Bb N [.str r0,.int r1,.int r2,.int r3,.int r4,.int r5,.int r6,.int r7,.bool r8,.int r9,.int r10,.int r11,.int r12,.rows r13,.rows L]=some [.int (Ah (⟨r0,r1,r2,r3,r4,r5,r6,r7,r8,r9,r10,r11,r12,r13⟩:Rul) L)]:=by
 show M5 (std (FW N) N) (xOf _)=_;generalize hres:(some [.int (Ah (⟨r0,r1,r2,r3,r4,r5,r6,r7,r8,r9,r10,r11,r12,r13⟩:Rul) L)]:Option (List PV))=RR;simp only[M5,WT,X2,lq9,std,xOf,PXb,Dl hN hs,Vf hN hs h13 hL,PXm];trivial
def Ye(L:Rows)(n:Int):Rows:=(L.take n.toNat).drop (0:Int).toNat
theorem AAl(L:Rows)(n:Int):(Ye L n).length≤L.length:=by
 unfold Ye
 grind
theorem AFA{n:Int}{k:Nat}(h:(iLt n 0||iLt (k:Int) n)=false):iRg 0 n (k:Int)=true:=by
 rw[Bool.or_eq_false_iff]at h;simp only[iLt,decide_eq_false_iff_not]at h;simp only[iRg,decide_eq_true_eq];omega
def atS(r:Rul)(L:Rows)(n:Int):Mat×Int:=cond (!(B8 r==0)) (kD,B8 r) (cond (iLt n 0||iLt (L.length:Int) n) (kD,2) (cond (!((DU r (Ye L n)).2.2==0)) (kD,10) ((DU r (Ye L n)).1,0)))
theorem ACG{N:Nat}{r8:Bool}{r0:ByteArray}{r13:Rows}{L:Rows}{n:Int}(hN:2097152<N)(hs:r0.size≤1048576)(h13:r13.length≤1048576)(hL:L.length≤1048576):Vm N [.str r0,.int r1,.int r2,.int r3,.int r4,.int r5,.int r6,.int r7,.bool r8,.int r9,.int r10,.int r11,.int r12,.rows r13,.rows L,.int n]=some (Ru (atS (⟨r0,r1,r2,r3,r4,r5,r6,r7,r8,r9,r10,r11,r12,r13⟩:Rul) L n)):=by
 show WH (std (Jf N) N) (xOf _)=_;generalize hres:(some (Ru (atS (⟨r0,r1,r2,r3,r4,r5,r6,r7,r8,r9,r10,r11,r12,r13⟩:Rul) L n)):Option (List PV))=RR;simp only[WH,Zj,QZ,lq9,std,xOf,PXb,Dl hN hs];subst hres;simp only[atS];cases B8 (⟨r0,r1,r2,r3,r4,r5,r6,r7,r8,r9,r10,r11,r12,r13⟩:Rul)==0
 case false=>rfl
 cases hb:iLt n 0||iLt (L.length:Int) n
 case true=>rfl
 have hf:=Nat.le_trans (AAl L n) hL;simp only[PXb,AFA hb,QZ];change(Option.bind (DB N [.str r0,.int r1,.int r2,.int r3,.int r4,.int r5,.int r6,.int r7,.bool r8,.int r9,.int r10,.int r11,.int r12,.rows r13,.rows (Ye L n)]) _)=_;rw[Vf hN hs h13 hf];simp only[PXb,PXc,mr];cases(DU (⟨r0,r1,r2,r3,r4,r5,r6,r7,r8,r9,r10,r11,r12,r13⟩:Rul) (Ye L n)).2.2==0<;>rfl
structure LogOk(m:Mat):Prop where
 fit:Mh m.inns
 len:m.inns.length≤5
 name:m.rules.name.size≤1048576
 power:m.rules.power.length≤1048576
def acc(L:Rows):Nat→Nat→Mat→Prop
 |0,_,_=>True
 |k+1,i,m=>((BI i m (evR L i)).2==0)=true∧acc L k (i+1) (BI i m (evR L i)).1
def stM(L:Rows):Nat→Nat→Mat→Mat
 |0,_,m=>m
 |k+1,i,m=>stM L k (i+1) (BI i m (evR L i)).1
def HH(L:Rows):Nat→Nat→Mat→Rows→Rows
 |0,_,_,out=>out
 |k+1,i,m,out=>HH L k (i+1) (BI i m (evR L i)).1 (cond ((evR L i).kind==4) (out++[Ca i m (BI i m (evR L i)).1 (evR L i).ball]) out)
theorem Ul(L:Rows):∀K i m,∃k,k≤K∧acc L k i m∧(∀out,ML L K i m out=HH L k i m out) ∧
    ((k=K∧Jb L K i m=(stM L k i m,-1,0))∨(k<K∧((BI ((i+k:Nat):Int) (stM L k i m) (evR L (i+k))).2==0)=false∧Jb L K i m=(stM L k i m,((i+k:Nat):Int),(BI ((i+k:Nat):Int) (stM L k i m) (evR L (i+k))).2)))
  |0,i,m=>⟨0,Nat.le_refl _,trivial,fun _=>rfl,Or.inl ⟨rfl,rfl⟩⟩
  |K+1,i,m=>by
    cases hq:(BI i m (evR L i)).2==0
    · refine⟨0,Nat.zero_le _,trivial,fun out=>?_,Or.inr ⟨Nat.succ_pos _,hq,?_⟩⟩
      · simp only[ML,hq,Bool.not_false,cond_true];rfl
      simp only[Jb,hq,Bool.not_false,cond_true];rfl
    obtain⟨k,h1,h2,h3,h4⟩:=Ul L K (i+1) (BI i m (evR L i)).1;refine⟨k+1,Nat.succ_le_succ h1,⟨hq,h2⟩,fun out=>?_,?_⟩
    · simp only[ML,hq,Bool.not_true,cond_false];exact h3 _
    have e:Jb L (K+1) i m=Jb L K (i+1) (BI i m (evR L i)).1:=by simp only[Jb,hq,Bool.not_true,cond_false]
    rw[e,show i+(k+1)=i+1+k by omega]
    rcases h4 with⟨h5,h6⟩|⟨h5,h6⟩
    · exact Or.inl ⟨by omega,h6⟩
    exact Or.inr ⟨by omega,h6⟩
theorem ABB(r:Rul):((AO r).2==0)=(B8 r==0):=by
 unfold AO
 grind
theorem Ux{L:Rows}:∀k i m,stM L (k+1) i m=(BI ((i+k:Nat):Int) (stM L k i m) (evR L (i+k))).1
 |0,i,m=>rfl
 |k+1,i,m=>by
  show stM L (k+1) (i+1) _=_;rw[Ux k (i+1),show i+1+k=i+(k+1) by omega];rfl
theorem PP{L:Rows}:∀k i m,acc L k i m→∀j,j<k→((BI ((i+j:Nat):Int) (stM L j i m) (evR L (i+j))).2==0)=true
 |0,_,_,_,j,h=>absurd h (Nat.not_lt_zero j)
 |k+1,i,m,ha,0,_=>ha.1
 |k+1,i,m,ha,j+1,h=>by
  have:=PP k (i+1) _ ha.2 j (by omega);rw[show i+1+j=i+(j+1) by omega]at this;exact this
theorem PK(r:Rul)(L:Rows):(BG r L).length≤L.length:=by
 unfold BG;cases(AO r).2==0
 ·simp_all
 have:=sQ L L.length 0 (AO r).1 []
 simp_all
abbrev wr(n:Int):Int:=IntKind.i64.wrap n
structure Nums(q:Int)(s t:Inn)(a b c:Int):Prop where
 runs:wr (t.runs-t.pens)=wr (s.runs-s.pens+a)
 rw:wr s.runs=s.runs→wr t.runs=t.runs
 balls:Db q t.complete t.inover=wr (s.complete*q+s.inover+b)
 wk:wr t.wickets=wr (s.wickets+c)
theorem WD(q c i:Int):Db q c i=wr (c*q+i):=by
 unfold Db;simp only[wr,RB];omega
theorem Nums.of{q:Int}{s t:Inn}(h1:t.runs=s.runs)(h2:t.pens=s.pens)(h3:t.complete=s.complete)(h4:t.inover=s.inover)(h5:t.wickets=s.wickets):Nums q s t 0 0 0:=
 ⟨by simp_all,fun h=>by simp_all,by rw[h3,h4,WD,Int.add_zero],by simp_all⟩
theorem Nums.out{q:Int}{s t:Inn}(h1:t.runs=s.runs)(h2:t.pens=s.pens)(h3:t.complete=s.complete)(h4:t.inover=s.inover)(h5:t.wickets=wr (s.wickets+1)):Nums q s t 0 0 1:=
 ⟨by simp_all,fun h=>by simp_all,by rw[h3,h4,WD,Int.add_zero],by rw[h5];exact JA _⟩
theorem Nums.pen(q:Int)(s:Inn):Nums q s (WM s) 0 0 0:=
 ⟨by show wr (wr (s.runs+5)-wr (s.pens+5))=_;simp only[wr,RB];omega,fun _=>JA _,by show Db q s.complete s.inover=_;rw[WD,Int.add_zero],by show wr s.wickets=_;simp_all⟩
def Cf(e:Ev):Int:=cond ((e.kind==5&&e.yes)||(e.kind==6 && !e.yes)) 1 0
theorem Nums.fin{q:Int}{s t:Inn}{a b c:Int}(h:Nums q s t a b c)(r:Rul)(x:Bool):Nums q s (Cc r t x) a b c:=⟨h.runs,h.rw,h.balls,h.wk⟩
def Da(e:Ev):Int:=cond (e.kind==4) (cond (e.ball.how==0) 0 1) (Cf e)
structure SumInv(q:Int)(xs:List Inn)(R B:Nat→Int)(O:Int):Prop where
 runs:∀i,i<xs.length→wr ((inn xs i).runs-(inn xs i).pens)=wr (R i)
 rw:∀i,i<xs.length→wr (inn xs i).runs=(inn xs i).runs
 balls:∀i,i<xs.length→Db q (inn xs i).complete (inn xs i).inover=wr (B i)
 zero:∀i,xs.length≤i→R i=0∧B i=0
 wk:wr (xs.map Inn.wickets).sum=wr O
theorem SumInv.congr{q:Int}{xs:List Inn}{R B R' B':Nat→Int}{O O':Int}(h:SumInv q xs R B O)(h1:∀i,R i=R' i)(h2:∀i,B i=B' i)(h3:O=O'):SumInv q xs R' B' O':=
 ⟨fun i hi=>(h.runs i hi).trans (by rw[h1]),h.rw,fun i hi=>(h.balls i hi).trans (by rw[h2]),fun i hi=>by rw[←h1,←h2];exact h.zero i hi,h.wk.trans (by rw[h3])⟩
def rT(L:Rows)(j:Nat):Int:=Bk ⟨atI L j 20,atI L j 21,atI L j 22,atI L j 23,atI L j 24,atI L j 25,atB L j 26,atB L j 27,atB L j 28,atB L j 29⟩
def rS(L:Rows)(i:Nat):Nat→Int
 |0=>0
 |n+1=>rS L i n+cond (atI L n 1==(i:Int)) (rT L n) 0
def bS(L:Rows)(i:Nat):Nat→Int
 |0=>0
 |n+1=>bS L i n+cond (atI L n 1==(i:Int)&&atB L n 26) 1 0
def hS(L:Rows):Nat→Int
 |0=>0
 |n+1=>hS L n+cond (atI L n 14==0) 0 1
def BJ(xs:List Int):Rows:=xs.map fun x=>[.int x]
theorem EB(xs:List Int):(BJ xs).length=xs.length:=List.length_map _
theorem ACr(xs:List Int)(i:Nat):AB (BJ xs) i=(match xs[i]? with|some x=>[.int x]|none=>[]):=by
 unfold AB BJ
 grind
theorem nN(xs:List Int)(i:Nat):atI (BJ xs) i 0=xs.getD i 0:=by
 unfold atI AD;rw[ACr,zzl];cases xs[i]?<;>rfl
theorem yz(xs:List Int)(i:Nat)(v:Int):(BJ xs).set i (Ad (AB (BJ xs) i) 0 [.int v])=BJ (xs.set i v):=by
 by_cases h:i<xs.length
 ·rw[ACr,zzo h];show(BJ xs).set i [.int v]=_;exact List.map_set.symm
 rw[List.set_eq_of_length_le (by rw[EB];omega),List.set_eq_of_length_le (by omega)]
structure SumSt(D:Rows)(n i:Nat)(s:List Int×List Int×Int):Prop where
 l1:s.1.length=n
 l2:s.2.1.length=n
 r:∀k,k<n→s.1.getD k 0=wr (rS D k i)
 b:∀k,k<n→s.2.1.getD k 0=wr (bS D k i)
 h:s.2.2=wr (hS D i)
structure Sco where
 side:Int
 runs:Int
 wickets:Int
 balls:Int
 wides:Int
 noballs:Int
 byes:Int
 legbyes:Int
 pens:Int
 ending:Int
theorem CH{n:Int}(h1 : -1000000000000≤n)(h2:n≤1000000000000):IntKind.i64.wrap n=n:=A0 (by omega) (by omega)
theorem wn{d:Del}(h:(D6 d==0)=true):(0≤d.runs∧d.runs≤7)∧(0≤d.short∧d.short≤d.runs)∧(d.boundary=0∨d.boundary=4∨d.boundary=6):=by
 unfold D6 at h;cases h1:(iLt d.type 1||iLt 3 d.type||iLt 3 d.source||iLt 10 d.how || !btw d.sector 0 8)
 ·cases h2:(!btw d.runs 0 7 || !btw d.short 0 d.runs||(!(d.boundary==0) && !(d.boundary==4) && !(d.boundary==6)))
  ·simp only[btw,iLe,Bool.or_eq_false_iff,Bool.not_eq_false',zzk,Bool.and_eq_false_iff,decide_eq_true_eq,beq_iff_eq]at h2;omega
  simp_all
 simp_all
structure CreOk(c:Cre):Prop where
 ba:0≤c.batter∧c.batter≤13
 wi:0≤c.wides∧c.wides≤18
 no:0≤c.noballs∧c.noballs≤5
 bb:0≤c.byes∧c.byes≤13
 lb:0≤c.legbyes∧c.legbyes≤13
 bo:c.bowler=c.batter+c.wides+c.noballs
 tot:Bk c=c.batter+c.wides+c.noballs+c.byes+c.legbyes
theorem AA1{b w o y l bo:Int}{x1 x2 x3 x4:Bool}(hb:0≤b∧b≤13)(hw:0≤w∧w≤18)(ho:0≤o∧o≤5)(hy:0≤y∧y≤13)(hl:0≤l∧l≤13)(hbo:bo=IntKind.i64.wrap (IntKind.i64.wrap (b+w)+o)):CreOk ⟨b,w,o,y,l,bo,x1,x2,x3,x4⟩:=by
 refine⟨hb,hw,ho,hy,hl,?_,?_⟩
 ·show bo=b+w+o;rw[hbo,CH (n:=b+w) (by omega) (by omega),CH (by omega) (by omega)]
 show IntKind.i64.wrap (IntKind.i64.wrap (IntKind.i64.wrap (IntKind.i64.wrap (b+w)+o)+y)+l)=b+w+o+y+l;rw[CH (n:=b+w) (by omega) (by omega),CH (n:=b+w+o) (by omega) (by omega),CH (n:=b+w+o+y) (by omega) (by omega),CH (by omega) (by omega)]
def Zv:Cre:=⟨0,0,0,0,0,0,false,false,false,false⟩
theorem vb:CreOk Zv:=AA1 (by decide) (by decide) (by decide) (by decide) (by decide) rfl
theorem mU{r:Rul}(h:RulOk r)(d:Del):CreOk (AF r d):=by
 unfold AF;cases hl:D6 d==0
 ·exact vb
 obtain⟨⟨a1,a2⟩,⟨a3,a4⟩,a5⟩:=wn hl;have hw:=h.wide;have hn:=h.noball;have e1:IntKind.i64.wrap (IntKind.i64.wrap (d.runs-d.short)+d.boundary)=d.runs-d.short+d.boundary:=by
  rw[CH (n:=d.runs-d.short) (by omega) (by omega),CH (by omega) (by omega)]
 have n0:0≤d.runs-d.short+d.boundary∧d.runs-d.short+d.boundary≤13:=by omega
 simp only[Bool.not_true,cond_false,Kb,e1];generalize d.runs-d.short+d.boundary=n at n0;have e2:IntKind.i64.wrap (r.wide+n)=r.wide+n:=CH (by omega) (by omega);have c13:∀b:Bool,0≤cond b n 0∧cond b n 0≤13:=fun b=>by grind
 refine AA1 (c13 _) ?_ ?_ (c13 _) (c13 _) rfl
 ·grind
 grind
def BM(r:Rul)(e:Ev):Cre:=cond (e.kind==4) (AF r e.ball) Zv
theorem OU{r:Rul}(h:RulOk r)(e:Ev):CreOk (BM r e):=by
 unfold BM;cases e.kind==4
 ·exact vb
 exact mU h _
theorem zw(e:Ev):0≤Da e∧Da e≤1:=by
 unfold Da Cf
 grind
def B2(q:Int)(s:Inn):Sco:=⟨s.side,s.runs,s.wickets,Db q s.complete s.inover,s.wides,s.noballs,s.byes,s.legbyes,s.pens,0⟩
def Q5(r:Rul)(e:Ev)(x:Sco):Sco:=⟨x.side,x.runs+Bk (BM r e),x.wickets+Da e,x.balls+cond (BM r e).counts 1 0,x.wides+(BM r e).wides,x.noballs+(BM r e).noballs,x.byes+(BM r e).byes,x.legbyes+(BM r e).legbyes,x.pens,x.ending⟩
def LG(n:Int)(x:Sco):Sco:=⟨x.side,x.runs+n,x.wickets,x.balls,x.wides,x.noballs,x.byes,x.legbyes,x.pens+n,x.ending⟩
theorem Cw(x:Sco):LG 0 x=x:=by
 obtain⟨x0,x1,x2,x3,x4,x5,x6,x7,x8,x9⟩:=x;simp only[LG,Int.add_zero]
theorem jk{r:Rul}{e:Ev}(x:Sco)(hk:(e.kind==4)=false):Q5 r e x={ x with wickets:=x.wickets+Cf e }:=by
 have c0:BM r e=Zv:=by unfold BM;grind
 have o0:Da e=Cf e:=by unfold Da;grind
 have t0:Bk Zv=0:=rfl;unfold Q5;rw[c0,o0,t0];simp only[Zv,cond_false,Int.add_zero]
theorem OY{r:Rul}{e:Ev}(x:Sco)(hk:(e.kind==4)=false)(ho:Cf e=0):Q5 r e x=x:=by
 rw[jk x hk,ho,Int.add_zero]
theorem AFR{r:Rul}{s:Inn}(ok:InnOk r s):0≤s.wickets∧s.wickets≤11:=by
 have h:=ok.bat;unfold mK at h;simp only[zzk]at h;have h1:=beq_iff_eq.1 h.2.2;have h2:=ui (pIs s.batters 2) s.batters.length;have h3:=(Ek ok.code).side;have h4:=ok.lb;unfold fA at h1;omega
theorem AFk{c q:Int}(hc:0≤c∧c≤1000000000)(hq:0≤q∧q≤8):0≤c*q∧c*q≤8000000000:=by
 refine⟨Int.mul_nonneg hc.1 hq.1,?_⟩;have h1:=Int.mul_le_mul_of_nonneg_right hc.2 hq.1;omega
theorem iQ{r:Rul}{s:Inn}(ok:InnOk r s):Db r.balls s.complete s.inover=s.complete*r.balls+s.inover∧0≤Db r.balls s.complete s.inover∧Db r.balls s.complete s.inover≤9000000000:=by
 have h1:=(Ek ok.code).balls;have h2:=ok.io;have h3:=AFk ok.complete (show 0≤r.balls∧r.balls≤8 by omega);rw[WD];have:wr (s.complete*r.balls+s.inover)=s.complete*r.balls+s.inover:=CH (by omega) (by omega);omega
theorem AFU{x a d:Int}(h:wr (x-a)=d)(hx:wr x=x)(ha:0≤a∧a≤9000000000)(hd:0≤d∧d≤1000):x=a+d:=by
 simp only[wr,RB]at h hx;omega
theorem AEK(q:Int)(r:Rul)(t:Inn)(b:Bool):B2 q (Cc r t b)=B2 q t:=rfl
theorem ACV{r:Rul}{s:Inn}{e:Ev}(hk:(e.kind==4)=true)(h:((A7 r s e).2==0)=true):B2 r.balls (A7 r s e).1=Q5 r e (B2 r.balls s):=by
 obtain⟨g1,g2,g3,g4,g5,g6,g7,g8,g9,g10⟩:=zj hk h;obtain⟨hv,he,hn,hw,hp,hs⟩:=Qq h;have ok:=LX.1 hv;have rk:=Ek ok.code;have co:=mU rk e.ball;have k4:=beq_iff_eq.1 hk;have hpb:Cx r s e=NM r s e.ball:=by unfold Cx;grind
 rw[hpb]at hp hs;obtain⟨hr,hb⟩:=nA hp;obtain⟨q1,q2,q3,q4,q5,q6⟩:=LW hr;have ce:BM r e=AF r e.ball:=by unfold BM;grind
 have od:Da e=cond (e.ball.how==0) 0 1:=by unfold Da;grind
 have hx:=iQ ok;have r0:=ok.runs;have w0:=ok.wides;have n0:=ok.noballs;have b0:=ok.byes;have l0:=ok.legbyes;have wk:=AFR ok;unfold CG at r0 w0 n0 b0 l0;have f0:=co.ba;have f1:=co.wi;have f2:=co.no;have f3:=co.bb;have f4:=co.lb;have f5:=co.tot;rw[hs,hb]at g1 g7 g8⊢;have e1:(Cc r (KO r s e.ball) (e.kind==4)).runs=IntKind.i64.wrap (s.runs+Bk (AF r e.ball)):=rfl;have e2:(Cc r (KO r s e.ball) (e.kind==4)).wides=IntKind.i64.wrap (s.wides+(AF r e.ball).wides):=rfl;have e3:(Cc r (KO r s e.ball) (e.kind==4)).noballs=IntKind.i64.wrap (s.noballs+(AF r e.ball).noballs):=rfl;have e4:(Cc r (KO r s e.ball) (e.kind==4)).byes=IntKind.i64.wrap (s.byes+(AF r e.ball).byes):=rfl;have e5:(Cc r (KO r s e.ball) (e.kind==4)).legbyes=IntKind.i64.wrap (s.legbyes+(AF r e.ball).legbyes):=rfl;have e6:(Cc r (KO r s e.ball) (e.kind==4)).side=s.side∧(Cc r (KO r s e.ball) (e.kind==4)).pens=s.pens∧(Cc r (KO r s e.ball) (e.kind==4)).wickets=(A1 s e.ball).wickets:=by
  obtain⟨w1,w2⟩:=xJ r (A1 s e.ball) (AF r e.ball).counts;obtain⟨k1,k2,k3,k4,k5,k6,k7,k8,k9,k10⟩:=jb s e.ball;have w3:(BD r (A1 s e.ball) (AF r e.ball).counts).1.side=s.side:=by
   have s1:(A1 s e.ball).side=s.side:=by
    unfold A1
    grind
   unfold BD
   grind
  refine⟨?_,?_,?_⟩
  ·show(cond (BD r (A1 s e.ball) (AF r e.ball).counts).2 (L4 (BD r (A1 s e.ball) (AF r e.ball).counts).1) (BD r (A1 s e.ball) (AF r e.ball).counts).1).side=_;rw[←w3];cases(BD r (A1 s e.ball) (AF r e.ball).counts).2<;>rfl
  ·simp_all
  show(cond (BD r (A1 s e.ball) (AF r e.ball).counts).2 (L4 (BD r (A1 s e.ball) (AF r e.ball).counts).1) (BD r (A1 s e.ball) (AF r e.ball).counts).1).wickets=_;rw[←w1];cases(BD r (A1 s e.ball) (AF r e.ball).counts).2<;>rfl
 obtain⟨z1,z2⟩:=Z4 q1 (Zp hw (by grind));have hout:=xG (d:=e.ball) z1 z2 (fun hd=>YM q5 hd);have wv:IntKind.i64.wrap (Db r.balls (Cc r (KO r s e.ball) (e.kind==4)).complete (Cc r (KO r s e.ball) (e.kind==4)).inover)=Db r.balls (Cc r (KO r s e.ball) (e.kind==4)).complete (Cc r (KO r s e.ball) (e.kind==4)).inover:=JA _;have hb7:=AFU g7 wv (by omega) (by grind);unfold B2 Q5;rw[e1,e2,e3,e4,e5,e6.1,e6.2.1,e6.2.2,hb7,ce,od,hout];have i1:IntKind.i64.wrap (s.runs+Bk (AF r e.ball))=s.runs+Bk (AF r e.ball):=CH (by omega) (by omega);have i2:IntKind.i64.wrap (s.wides+(AF r e.ball).wides)=s.wides+(AF r e.ball).wides:=CH (by omega) (by omega);have i3:IntKind.i64.wrap (s.noballs+(AF r e.ball).noballs)=s.noballs+(AF r e.ball).noballs:=CH (by omega) (by omega);have i4:IntKind.i64.wrap (s.byes+(AF r e.ball).byes)=s.byes+(AF r e.ball).byes:=CH (by omega) (by omega);have i5:IntKind.i64.wrap (s.legbyes+(AF r e.ball).legbyes)=s.legbyes+(AF r e.ball).legbyes:=CH (by omega) (by omega);have i6:inc s.wickets=s.wickets+1:=CH (by omega) (by omega)
 grind
def Kz(q:Int)(s:Inn)(x:Inn×Int):Prop:=(x.2==0)=true→B2 q x.1=B2 q s
theorem E2{q:Int}{s:Inn}(b:Bool)(x y:Inn×Int)(hx:Kz q s x)(hy:Kz q s y):Kz q s (cond b x y):=by grind
theorem uD{r:Rul}{s:Inn}{e:Ev}(h:((A7 r s e).2==0)=true):B2 r.balls (A7 r s e).1=LG (cond (e.kind==13&&e.side==s.side) 5 0) (Q5 r e (B2 r.balls s)):=by
 cases hk:e.kind==4
 ·obtain⟨hv,he,hn,hw,hp,hs⟩:=Qq h;have ok:=LX.1 hv;have wk:=AFR ok;have iw:IntKind.i64.wrap (s.wickets+1)=s.wickets+1:=CH (by omega) (by omega);rw[hs,AEK,jk _ hk];have z:∀{x:Inn×Int},Kz r.balls s x→(x.2==0)=true→Cf e=0→B2 r.balls x.1=LG (cond (false&&e.side==s.side) 5 0) { B2 r.balls s with wickets:=(B2 r.balls s).wickets+Cf e }:=fun k hx h0=>by
   rw[k hx,h0,Int.add_zero];exact(Cw _).symm
  have kn:∀{t:Inn} {n:Int},(n==0)=false→Kz r.balls s (t,n):=fun hn hx=>by simp_all
  have ks:∀{n:Int},Kz r.balls s (s,n):=fun _=>rfl
  revert hp
  unfold Cx;rw[hk];cases h5:e.kind==5
  ·cases h6:e.kind==6
   ·have ho:Cf e=0:=by unfold Cf;grind
    cases h13:e.kind==13
    ·simp only[cond_false];intro hp;refine z ?_ hp ho;refine E2 _ _ _ ?_ (E2 _ _ _ ?_ (E2 _ _ _ ?_ (E2 _ _ _ ?_ (E2 _ _ _ ?_ (E2 _ _ _ ?_ (E2 _ _ _ ?_ (E2 _ _ _ ?_ ?_)))))))
     ·unfold Rf;exact E2 _ _ _ ks (E2 _ _ _ ks (E2 _ _ _ ks (fun _=>rfl)))
     ·unfold aM;cases RO r s e.player==0
      ·exact ks
      exact fun _=>rfl
     ·unfold Ni;exact E2 _ _ _ ks (fun _=>rfl)
     ·unfold Qm;exact E2 _ _ _ ks (E2 _ _ _ ks (E2 _ _ _ ks (fun _=>rfl)))
     ·unfold VB;exact E2 _ _ _ ks (E2 _ _ _ ks (fun _=>rfl))
     ·unfold N3;exact E2 _ _ _ ks (fun _=>rfl)
     ·unfold Nw;exact E2 _ _ _ ks (E2 _ _ _ ks (fun _=>rfl))
     ·unfold OX;exact E2 _ _ _ ks (E2 _ _ _ (fun _=>rfl) ks)
     unfold Qy;exact E2 _ _ _ ks (E2 _ _ _ ks (E2 _ _ _ ks (fun _=>rfl)))
    have k13:=beq_iff_eq.1 h13;rw[k13,ho];intro hp;change((JN s e.side e.runs).2==0)=true at hp;show B2 r.balls (JN s e.side e.runs).1=_;have rn:=ok.runs;have pn:=ok.pens;unfold CG at rn pn;have i1:IntKind.i64.wrap (s.runs+5)=s.runs+5:=CH (by omega) (by omega);have i2:IntKind.i64.wrap (s.pens+5)=s.pens+5:=CH (by omega) (by omega);unfold JN at hp⊢;cases hr5:e.runs==5
    ·simp_all
    cases hsd:e.side==s.side
    ·simp only[Bool.not_true,cond_false,Bool.and_false,Int.add_zero];exact(Cw _).symm
    simp only[Bool.not_true,cond_false,cond_true];unfold B2 LG WM
    simp_all
   have h6':=beq_iff_eq.1 h6;have ho:Cf e=cond e.yes 0 1:=by unfold Cf;simp_all
   rw[ho,h6'];intro hp;change((G2 s e.player e.yes).2==0)=true at hp;show B2 r.balls (G2 s e.player e.yes).1=_;unfold G2 at hp⊢;cases hm1:(!inR e.player s.batters.length)
   ·cases hm2:(s.striker==0||s.other==0)
    ·cases hm3:(!(e.player==s.striker) && !(e.player==s.other))
     ·cases hm4:(e.yes&&((Fr s.batters s.batters.length).length:Int)==0)
      ·simp only[cond_false];cases e.yes
       ·unfold B2 LG;simp_all
       unfold B2 LG;simp_all
      simp_all
     simp_all
    simp_all
   simp_all
  have h5':=beq_iff_eq.1 h5;have ho:Cf e=cond e.yes 1 0:=by unfold Cf;simp_all
  rw[ho,h5'];cases e.yes
  ·intro hp;refine Eq.trans (b:=B2 r.balls s) ?_ ?_
   ·exact(show Kz r.balls s (M3 s e.player) by unfold M3;exact E2 _ _ _ (fun _=>rfl) (fun _=>rfl)) hp
   simp only[cond_false,Int.add_zero];exact(Cw _).symm
  intro hp;change((GW s e.player).2==0)=true at hp;show B2 r.balls (GW s e.player).1=_;unfold GW at hp⊢;cases hm:P3 s e.player==0
  ·simp_all
  simp only[cond_true];unfold B2 LG
  simp_all
 rw[ACV hk h,beq_iff_eq.1 hk];exact(Cw _).symm
def sco(xs:List Sco)(i:Nat):Sco:=xs.getD i ⟨0,0,0,0,0,0,0,0,0,0⟩
theorem GL(xs:List Sco)(i:Nat):sco xs i=(match xs[i]? with|some s=>s|none=>⟨0,0,0,0,0,0,0,0,0,0⟩):=by
 unfold sco
 grind
theorem Yi(xs:List Sco)(k:Nat)(s:Sco)(i:Nat)(hi:i<xs.length):sco (xs.set k s) i=(if k=i then s else sco xs i):=by
 rw[GL,GL,List.getElem?_set]
 grind
theorem ADg(xs:List Sco)(s:Sco)(i:Nat)(hi:i<xs.length+1):sco (xs++[s]) i=(if i<xs.length then sco xs i else s):=by
 rw[GL,GL]
 grind
structure TS where
 xs:List Sco
 p1:Int
 p2:Int
 first:Int
 follow:Bool
def Fn(m:Mat):TS:=⟨m.inns.map (B2 m.rules.balls),m.pen1,m.pen2,m.first,m.follow⟩
theorem RX(q:Int)(xs:List Inn){i:Nat}(h:i<xs.length):sco (xs.map (B2 q)) i=B2 q (inn xs i):=by
 rw[GL,PI,List.getElem?_map,zzo h];rfl
theorem ABz(q:Int)(xs:List Inn)(i:Nat):(sco (xs.map (B2 q)) i).side=(inn xs i).side:=by
 rw[GL,PI,List.getElem?_map];cases xs[i]?<;>rfl
def Ne(first:Int)(follow:Bool)(i:Int):Int:=cond (cond (follow&&iLe 2 i) (i==2) (i.tmod 2==1)) (C5 first) first
theorem yQ(m:Mat)(i:Int):Ee m i=Ne m.first m.follow i:=rfl
def uw(sd p:Int):Sco:=⟨sd,p,0,0,0,0,0,0,p,0⟩
def CW(sd:Nat→Int)(s:Int):Nat→Option Nat
 |0=>none
 |k+1=>cond (sd k==s) (some k) (CW sd s k)
theorem Zh{f g:Nat→Int}{s:Int}:∀n,(∀k,k<n→f k=g k)→CW f s n=CW g s n
 |0,_=>rfl
 |n+1,h=>by
  unfold CW;rw[h n (Nat.lt_succ_self n),Zh n (fun k hk=>h k (by omega))]
theorem K0{f:Nat→Int}{s:Int}{j:Nat}:∀n,CW f s n=some j→j<n∧f j=s
 |0,h=>by cases h
 |n+1,h=>by
  unfold CW at h;cases hq:f n==s
  ·rw[hq]at h;obtain⟨h1,h2⟩:=K0 n h;omega
  simp_all
theorem dC{f:Nat→Int}{s:Int}:∀n,CW f s n=none→∀j,j<n→¬f j=s
 |0,_,j,hj=>absurd hj (Nat.not_lt_zero j)
 |n+1,h,j,hj=>by
  unfold CW at h;cases hq:f n==s
  ·rw[hq]at h
   by_cases e:j=n
   ·simp_all
   exact dC n h j (by omega)
  simp_all
theorem xu(xs:List Inn)(sd:Int):∀n,PT xs sd n=CW (fun k=>(inn xs k).side) sd n
 |0=>rfl
 |n+1=>by
  unfold PT CW;rw[xu xs sd n]
def rU(T:TS):TS:=
 let sd:=Ne T.first T.follow (T.xs.length:Int)
 { T with xs:=T.xs++[uw sd (cond (sd==2) T.p2 T.p1)],p1:=cond (sd==1) 0 T.p1,p2:=cond (sd==2) 0 T.p2 }
def ay(s:Int)(T:TS):TS:=match CW (fun k=>(sco T.xs k).side) s T.xs.length with
 |some k=>{ T with xs:=T.xs.set k (LG 5 (sco T.xs k)) }
 |none=>{ T with p1:=cond (s==1) (T.p1+5) T.p1,p2:=cond (s==2) (T.p2+5) T.p2 }
def rW(r:Rul)(e:Ev)(T:TS):TS:={ T with xs:=T.xs.set (T.xs.length-1) (Q5 r e (sco T.xs (T.xs.length-1))) }
def Ve(e:Ev):Int:=cond e.yes e.side (C5 e.side)
def Xa(r:Rul)(e:Ev)(T:TS):TS:=
 cond (e.kind==1) { T with first:=Ve e } (cond (e.kind==2) (rU T) (cond (e.kind==12) { T with follow:=e.yes } (cond (e.kind==16) T (cond (e.kind==13) (ay e.side T) (rW r e T)))))
theorem AAK(x:Mat):Fn (C4 x)=Fn x∧(C4 x).inns=x.inns∧((C4 x).stage=x.stage∨(x.stage=3∧((C4 x).stage=5∨((C4 x).stage=4∧x.inns.length=2)∨(C4 x).stage=2))):=by
 unfold C4;cases h3:(x.stage==3 && !((AZ x).ending==0))
 ·simp_all
 rw[zzk]at h3;have s3:=beq_iff_eq.1 h3.1;simp only[cond_true];unfold Uc
 dsimp only
 cases((x.inns.length:Int)==IntKind.i64.wrap (2*x.rules.innings)||((x.inns.length:Int)==3&&iLt (D0 x (AZ x).side) (D0 x (C5 (AZ x).side))))
 ·cases h4:((x.inns.length:Int)==2&&iLt 0 x.rules.followon&&iLe x.rules.followon (IntKind.i64.wrap (D0 x x.first-D0 x (C5 x.first))))
  ·exact⟨rfl,rfl,Or.inr ⟨s3,Or.inr (Or.inr rfl)⟩⟩
  simp only[zzk,beq_iff_eq]at h4;exact⟨rfl,rfl,Or.inr ⟨s3,Or.inr (Or.inl ⟨rfl,by omega⟩)⟩⟩
 exact⟨rfl,rfl,Or.inr ⟨s3,Or.inl rfl⟩⟩
theorem kf{m:Mat}(h:Ib m=true):(0≤m.pen1∧m.pen1≤1000000)∧(0≤m.pen2∧m.pen2≤1000000)∧((m.stage==1)=true→m.first=0)∧((m.stage==4)=true→m.inns.length=2)∧0≤m.first∧m.first≤2:=by
 unfold Ib rX at h;simp only[zzk,Bool.not_eq_true']at h;obtain⟨⟨h1,h2,h3,h4,h5,h6,h7,h8,h9,h10⟩,h11,h12⟩:=h;unfold kJ at h4;simp only[Bool.or_eq_false_iff,iLt,decide_eq_false_iff_not]at h4;simp only[Bool.or_eq_false_iff,iLt,decide_eq_false_iff_not]at h5
 grind
theorem zu{r:Rul}{a b c:Int}(h:((DX r a b c).2==0)=true):B2 r.balls (DX r a b c).1=uw a c∧(a=1∨a=2):=by
 unfold DX at h⊢;cases h1:B8 r==0
 ·simp_all
 cases h2:(!btw a 1 2 || !btw b 0 1000000 || !btw c 0 1000000)
 ·rw[Bool.or_eq_false_iff,Bool.or_eq_false_iff,Bool.not_eq_false']at h2;have:=Yl.1 h2.1.1;refine⟨?_,by omega⟩;show Sco.mk a c 0 (Db r.balls 0 0) 0 0 0 0 c 0=_;rw[WD,Int.zero_mul];rfl
 simp_all
theorem Mw(q:Int)(xs:List Inn)(k:Nat)(t:Inn):(xs.set k t).map (B2 q)=(xs.map (B2 q)).set k (B2 q t):=List.map_set
theorem rc(xs:List Sco)(k:Nat)(h:k<xs.length):xs.set k (sco xs k)=xs:=by
 apply List.ext_getElem?;intro i;rw[List.getElem?_set]
 by_cases e:k=i
 ·subst e;rw[if_pos rfl,if_pos h,GL,zzo h]
 simp_all
theorem ADA{r:Rul}{s:Inn}(hv:Ll r s=true)(q:Int):B2 q (WM s)=LG 5 (B2 q s):=by
 have ok:=LX.1 hv;have rn:=ok.runs;have pn:=ok.pens;unfold CG at rn pn;have i1:IntKind.i64.wrap (s.runs+5)=s.runs+5:=CH (by omega) (by omega);have i2:IntKind.i64.wrap (s.pens+5)=s.pens+5:=CH (by omega) (by omega);unfold B2 LG WM
 simp_all
structure Stg(m:Mat)(e:Ev)(t:Mat):Prop where
 k1:(e.kind==1)=true→m.stage=1∧t.stage=2
 k2:(e.kind==2)=true→m.stage=2∧m.inns.length≤3
 k12:(e.kind==12)=true→m.stage=4∧m.inns.length=2∧t.stage=2
 k16:(e.kind==16)=true→t.stage=5
 play:(e.kind==1)=false→(e.kind==2)=false→(e.kind==12)=false→(e.kind==16)=false→m.stage=3∧1≤m.inns.length
 not1:¬t.stage=1
 four:t.stage=4→t.inns.length=2
set_option maxHeartbeats 4000000 in
theorem uv{m:Mat}{e:Ev}(h:((EW m e).2==0)=true):Fn (EW m e).1=Xa m.rules e (Fn m)∧Stg m e (EW m e).1:=by
 obtain⟨hv,he,h5,hp,hs⟩:=Zz h;have ok:=ec hv;obtain⟨v1,v2,v3,v4,v5,v6⟩:=kf hv;obtain⟨c1,c2,c3⟩:=AAK (Ky m e).1;rw[hs,c1];have len4:=ok.len;unfold Xa;unfold Ky at hp c2 c3⊢;cases k1:e.kind==1
 ·rw[k1]at hp c2 c3;cases k2:e.kind==2
  ·rw[k2]at hp c2 c3;cases k12:e.kind==12
   ·rw[k12]at hp c2 c3;cases k16:e.kind==16
    ·rw[k16]at hp c2 c3;simp only[cond_false]at hp c2 c3⊢;cases s3:m.stage==3
     ·simp_all
     rw[s3]at hp c2 c3;simp only[Bool.not_true,cond_false]at hp c2 c3⊢;have h0:=ok.begun s3;have hl:=eP h0 (by omega);have hlen:m.inns.length-1=lnx m.inns:=by
      rw[beq_eq_false_iff_ne]at h0;unfold lnx;rw[A0 (by omega) (by omega)];omega
     have stg:(C4 (FC m e).1).inns.length=m.inns.length→((C4 (FC m e).1).stage=3∨((C4 (FC m e).1).stage=5∨((C4 (FC m e).1).stage=4∧m.inns.length=2)∨(C4 (FC m e).1).stage=2))→Stg m e (C4 (FC m e).1):=fun hn hq=>
      ⟨fun k=>(by simp_all),fun k=>(by simp_all),fun k=>(by simp_all),fun k=>(by simp_all),fun _ _ _ _=>⟨beq_iff_eq.1 s3,by omega⟩,by
       omega,by
       omega⟩
     have xl:(m.inns.map (B2 m.rules.balls)).length=m.inns.length:=List.length_map _;cases hq:(A7 m.rules (AZ m) e).2==0
     ·unfold FC at hp;simp_all
     have n1:=uD hq;have sd1:(A7 m.rules (AZ m) e).1.side=(AZ m).side:=congrArg Sco.side n1;have s3':=beq_iff_eq.1 s3;cases k13:e.kind==13
     ·rw[k13]at n1;have n2:=n1.trans (Cw _);have pm:FC m e=({ m with inns:=m.inns.set (lnx m.inns) (A7 m.rules (AZ m) e).1 },0):=by
       unfold FC
       grind
      rw[pm]at c2 c3 stg⊢;refine⟨?_,stg (by grind) ?_⟩
      ·unfold Fn rW;simp only[cond_false,Mw,n2,xl,hlen,RX _ _ hl];rfl
      grind
     have e13:=beq_iff_eq.1 k13;have o0:Cf e=0:=by unfold Cf;grind
     rw[OY _ (by grind) o0,k13,Bool.true_and]at n1;have bk:CW (fun k=>(sco (m.inns.map (B2 m.rules.balls)) k).side) e.side m.inns.length=cond (e.side==(AZ m).side) (some (lnx m.inns)) (CW (fun k=>(inn m.inns k).side) e.side (lnx m.inns)):=by
      have:m.inns.length=lnx m.inns+1:=by omega
      rw[this];show cond ((sco (m.inns.map (B2 m.rules.balls)) (lnx m.inns)).side==e.side) _ (CW (fun k=>(sco (m.inns.map (B2 m.rules.balls)) k).side) e.side (lnx m.inns))=_;simp only[ABz];have sy:((inn m.inns (lnx m.inns)).side==e.side)=(e.side==(AZ m).side):=by
       show((AZ m).side==e.side)=_
       grind
      rw[sy]
     cases hsd:e.side==(AZ m).side
     ·rw[hsd]at n1 bk;simp only[cond_false]at n1 bk;have n2:=n1.trans (Cw _);have pm:FC m e=(Mn { m with inns:=m.inns.set (lnx m.inns) (A7 m.rules (AZ m) e).1 } e.side,0):=by
       unfold FC
       grind
      have ab:PT (m.inns.set (lnx m.inns) (A7 m.rules (AZ m) e).1) e.side (m.inns.set (lnx m.inns) (A7 m.rules (AZ m) e).1).length=CW (fun k=>(inn m.inns k).side) e.side (lnx m.inns):=by
       rw[xu,List.length_set,show m.inns.length=lnx m.inns+1 by omega];show cond ((inn (m.inns.set (lnx m.inns) (A7 m.rules (AZ m) e).1) (lnx m.inns)).side==e.side) (some (lnx m.inns)) (CW (fun k=>(inn (m.inns.set (lnx m.inns) (A7 m.rules (AZ m) e).1) k).side) e.side (lnx m.inns))=CW (fun k=>(inn m.inns k).side) e.side (lnx m.inns);rw[fW _ _ _ _ hl,if_pos rfl,sd1];have sy:((AZ m).side==e.side)=false:=by
        grind
       rw[sy];exact Zh _ (fun k hk=>by rw[fW _ _ _ _ (by omega),if_neg (by omega)])
      have mx:(m.inns.set (lnx m.inns) (A7 m.rules (AZ m) e).1).map (B2 m.rules.balls)=m.inns.map (B2 m.rules.balls):=by
       rw[Mw,n2,show B2 m.rules.balls (AZ m)=sco (m.inns.map (B2 m.rules.balls)) (lnx m.inns)from(RX _ _ hl).symm];exact rc _ _ (by omega)
      obtain⟨a1,a2,a3,a4⟩:=vB (m:={ m with inns:=m.inns.set (lnx m.inns) (A7 m.rules (AZ m) e).1 }) e.side (U6 (lnx m.inns) (qF ok) (by
       have lv:=Tr (ok.innv (lnx m.inns) hl).1;have l1:=lv.1;have l2:=lv.2.1;exact Vk (W6 m.rules (AZ m) e) lv.2.2 (show(inn m.inns (lnx m.inns)).before.length+(inn m.inns (lnx m.inns)).bowlers.length≤1048575 by omega)))
      have a3':(Mn { m with inns:=m.inns.set (lnx m.inns) (A7 m.rules (AZ m) e).1 } e.side).inns.length=m.inns.length:=a3.trans List.length_set;rw[pm]at c2 c3 stg⊢;refine⟨?_,stg (by grind) ?_⟩
      ·simp only[cond_true];unfold Mn;simp only[ab];unfold ay;show Fn _=match CW (fun k=>(sco (m.inns.map (B2 m.rules.balls)) k).side) e.side (m.inns.map (B2 m.rules.balls)).length with
        |some k=>_
        |none=>_
       rw[xl,bk];cases hk:CW (fun k=>(inn m.inns k).side) e.side (lnx m.inns)with
       |none=>
        have i1:IntKind.i64.wrap (m.pen1+5)=m.pen1+5:=CH (by omega) (by omega);have i2:IntKind.i64.wrap (m.pen2+5)=m.pen2+5:=CH (by omega) (by omega);unfold Fn
        grind
       |some k=>
        have hk2:=(K0 _ hk).1;have hki:inn (m.inns.set (lnx m.inns) (A7 m.rules (AZ m) e).1) k=inn m.inns k:=by rw[fW _ _ _ _ (by omega),if_neg (by omega)]
        unfold Fn;simp only[hki,Mw (k:=k),mx,ADA (ok.innv k (by omega)).1,RX _ _ (show k<m.inns.length by omega)]
      grind
     rw[hsd]at n1 bk;simp only[cond_true]at n1 bk;have pm:FC m e=({ m with inns:=m.inns.set (lnx m.inns) (A7 m.rules (AZ m) e).1 },0):=by
      unfold FC
      simp_all
     rw[pm]at c2 c3 stg⊢;refine⟨?_,stg (by simp_all) ?_⟩
     ·unfold Fn ay;simp only[cond_true,Mw,n1,xl,bk,RX _ _ hl];rfl
     simp_all
    rw[k16]at hp c2 c3;simp only[cond_false,cond_true]at c2 c3⊢;have st:(C4 (mL m)).stage=5:=by
     rfl
    refine⟨?_,⟨fun k=>(by simp_all),fun k=>(by simp_all),fun k=>(by simp_all),fun _=>st,fun _ _ _ k=>(by simp_all),by omega,(by omega)⟩⟩;unfold Fn mL;simp only;cases s3:m.stage==3
    ·rfl
    have hl:=eP (ok.begun s3) (by omega);simp only[cond_true,Mw];rw[show B2 m.rules.balls { AZ m with ending:=5 }=sco (m.inns.map (B2 m.rules.balls)) (lnx m.inns)from(RX _ _ hl).symm,rc _ _ (by simp_all)]
   have e12:=beq_iff_eq.1 k12;rw[k12]at hp c2 c3;cases s4:m.stage==4
   ·simp_all
   rw[s4]at hp c2 c3;cases sf:e.side==m.first
   ·simp_all
   rw[sf]at c2 c3;simp only[Bool.not_true,cond_false,cond_true]at c2 c3⊢;refine⟨rfl,?_⟩;have st:(C4 { m with follow:=e.yes,stage:=2 }).stage=2:=by
    rfl
   exact⟨fun k=>(by simp_all),fun k=>(by simp_all),fun _=>⟨beq_iff_eq.1 s4,v4 s4,st⟩,fun k=>(by simp_all),fun _ _ k=>(by simp_all),by omega,(by omega)⟩
  have e2:=beq_iff_eq.1 k2;rw[k2]at hp c2 c3;cases s2:m.stage==2
  ·simp_all
  rw[s2]at hp c2 c3;simp only[Bool.not_true,cond_false,cond_true]at hp c2 c3⊢;have room:=ok.room s2;have inn2:=(Ek ok.code).innings;unfold aX at hp c2 c3⊢;cases hb:(DX m.rules (Ee m (m.inns.length:Int)) (KC m (Ee m (m.inns.length:Int))) (cond (Ee m (m.inns.length:Int)==2) m.pen2 m.pen1)).2==0
  ·simp_all
  simp only[hb,Bool.not_true,cond_false]at hp c2 c3⊢;cases ht:(A7 m.rules (DX m.rules (Ee m (m.inns.length:Int)) (KC m (Ee m (m.inns.length:Int))) (cond (Ee m (m.inns.length:Int)==2) m.pen2 m.pen1)).1 e).2==0
  ·simp_all
  simp only[ht,Bool.not_true,cond_false]at c2 c3⊢;have n1:=uD ht;have o0:Cf e=0:=by unfold Cf;grind
  rw[OY _ (by grind) o0,e2]at n1;have n2:=n1.trans (Cw _);rw[(zu hb).1]at n2;refine⟨?_,?_⟩
  ·unfold Fn rU;rw[←yQ]at *
   simp_all
  refine⟨fun k=>(by simp_all),fun _=>⟨beq_iff_eq.1 s2,by omega⟩,fun k=>(by simp_all),fun k=>(by simp_all),fun _ k=>(by simp_all),?_,?_⟩
  ·omega
  grind
 have e1:=beq_iff_eq.1 k1;rw[k1]at hp c2 c3;cases s1:m.stage==1
 ·simp_all
 rw[s1]at c2 c3;simp only[Bool.not_true,cond_false,cond_true]at c2 c3⊢;refine⟨rfl,?_⟩;have st:(C4 { m with first:=cond e.yes e.side (C5 e.side),stage:=2 }).stage=2:=by
  rfl
 exact⟨fun _=>⟨beq_iff_eq.1 s1,st⟩,fun k=>(by simp_all),fun k=>(by simp_all),fun k=>(by simp_all),fun k=>(by simp_all),by omega,(by omega)⟩
def opn(L:Rows):Nat→Nat
 |0=>0
 |n+1=>opn L n+cond ((evR L n).kind==2) 1 0
theorem Nj(L:Rows)(n:Nat):opn L n≤opn L (n+1):=by
 show opn L n≤opn L n+_;omega
theorem Ei(L:Rows){i:Nat}:∀{j:Nat},i≤j→opn L i≤opn L j
 |0,h=>by simp_all
 |j+1,h=>by
  by_cases e:i=j+1
  ·simp_all
  exact Nat.le_trans (Ei L (by omega)) (Nj L j)
def Ed(L:Rows):Nat→Option Int
 |0=>none
 |n+1=>match Ed L n with
  |some v=>some v
  |none=>cond ((evR L n).kind==1) (some (Ve (evR L n))) none
theorem gj{L:Rows}{v:Int}{i:Nat}(h:Ed L i=some v):∀{j:Nat},i≤j→Ed L j=some v
 |0,hj=>by simp_all
 |j+1,hj=>by
  by_cases e:i=j+1
  ·simp_all
  unfold Ed;rw[gj h (show i≤j by omega)]
def FT(L:Rows):Nat→Bool
 |0=>false
 |n+1=>FT L n||((evR L n).kind==12&&(evR L n).yes)
def had(L:Rows):Nat→Bool
 |0=>false
 |n+1=>had L n||(evR L n).kind==12
theorem xg{L:Rows}:∀n,had L n=false→FT L n=false
 |0,_=>rfl
 |n+1,h=>by
  unfold had at h;unfold FT;rw[Bool.or_eq_false_iff]at h;rw[xg n h.1,h.2];rfl
structure LogI(L:Rows)(i:Nat)(m:Mat):Prop where
 len:m.inns.length=opn L i
 fs:∀v,Ed L i=some v→m.first=v∧¬m.stage=1
 fn:Ed L i=none→m.first=0
 fol:m.follow=FT L i
 k12:had L i=true→(m.inns.length=2∧(m.stage=2∨m.stage=5))∨3≤m.inns.length
structure EvF(L:Rows)(i:Nat):Prop where
 two:((evR L i).kind==2)=true→opn L i≤3∧∃v,Ed L i=some v∧(v=1∨v=2)
 twelve:((evR L i).kind==12)=true→opn L i=2
 play:((evR L i).kind==1)=false→((evR L i).kind==2)=false→((evR L i).kind==12)=false→((evR L i).kind==16)=false→1≤opn L i
theorem ACW(s:Int)(T:TS):(ay s T).xs.length=T.xs.length∧(ay s T).first=T.first∧(ay s T).follow=T.follow:=by
 unfold ay
 grind
theorem y6(r:Rul)(e:Ev)(T:TS):(Xa r e T).xs.length=T.xs.length+cond (e.kind==2) 1 0∧(Xa r e T).first=cond (e.kind==1) (Ve e) T.first∧(Xa r e T).follow=cond (e.kind==12) e.yes T.follow:=by
 unfold Xa;cases k1:e.kind==1
 ·cases k2:e.kind==2
  ·cases k12:e.kind==12
   ·cases k16:e.kind==16
    ·cases k13:e.kind==13
     ·exact⟨List.length_set,rfl,rfl⟩
     exact ACW e.side T
    trivial
   trivial
  rw[beq_iff_eq.1 k2];refine⟨?_,rfl,rfl⟩;show(T.xs++[_]).length=_
  simp_all
 simp_all
theorem ABx{L:Rows}{i:Nat}{m:Mat}(h:LogI L i m)(ha:((EW m (evR L i)).2==0)=true):LogI L (i+1) (EW m (evR L i)).1∧EvF L i:=by
 obtain⟨ab,sg⟩:=uv ha;obtain⟨hv,he,h5,hp,hs⟩:=Zz ha;have vp:=kf hv;obtain⟨t1,t2,t3⟩:=y6 m.rules (evR L i) (Fn m);rw[←ab]at t1 t2 t3;have x1:∀z:Mat,(Fn z).xs.length=z.inns.length:=fun z=>List.length_map _
 rw[x1,x1]at t1;change(EW m (evR L i)).1.first=cond ((evR L i).kind==1) (Ve (evR L i)) m.first at t2;change(EW m (evR L i)).1.follow=cond ((evR L i).kind==12) (evR L i).yes m.follow at t3;have no12:((evR L i).kind==12)=true→had L i=false:=fun k=>by
  obtain⟨s1,s2,s3⟩:=sg.k12 k;cases hh:had L i
  ·rfl
  rcases h.k12 hh with⟨_,q|q⟩|q<;>omega
 have no5:¬m.stage=5:=beq_eq_false_iff_ne.1 h5;refine⟨⟨?_,?_,?_,?_,?_⟩,⟨?_,?_,?_⟩⟩
 ·rw[t1,h.len];rfl
 ·intro v hv2;refine⟨?_,sg.not1⟩;rw[t2];unfold Ed at hv2;cases hf:Ed L i with
  |some w=>
   rw[hf]at hv2;cases hv2;obtain⟨f1,f2⟩:=h.fs _ hf;cases k1:(evR L i).kind==1
   ·exact f1
   exact absurd (sg.k1 k1).1 f2
  |none=>
   grind
 ·intro hn;rw[t2];unfold Ed at hn;cases hf:Ed L i with
  |some w=>simp_all
  |none=>
   rw[hf]at hn;cases k1:(evR L i).kind==1
   ·exact h.fn hf
   simp_all
 ·rw[t3];unfold FT;cases k12:(evR L i).kind==12
  ·rw[h.fol,Bool.false_and,Bool.or_false];rfl
  rw[xg i (no12 k12)];rfl
 ·intro hh;rw[t1];unfold had at hh;cases k12:(evR L i).kind==12
  ·rw[k12,Bool.or_false]at hh
   rcases h.k12 hh with⟨q1,q2⟩|q
   ·cases k2:(evR L i).kind==2
    ·refine Or.inl ⟨q1,?_⟩;cases k16:(evR L i).kind==16
     ·cases k1:(evR L i).kind==1
      ·have:=(sg.play k1 k2 k12 k16).1;omega
      have:=(sg.k1 k1).1;omega
     exact Or.inr (sg.k16 k16)
    simp_all
   omega
  obtain⟨s1,s2,s3⟩:=sg.k12 k12;omega
 ·intro k2;obtain⟨s1,s2⟩:=sg.k2 k2;refine⟨by rw[←h.len];exact s2,?_⟩;have tk:=(ec hv).toss (by grind);cases hf:Ed L i with
  |none=>have:=h.fn hf;omega
  |some w=>exact⟨w,rfl,by rw[←(h.fs w hf).1];exact tk⟩
 ·intro k;rw[←h.len];exact(sg.k12 k).2.1
 intro a b c d;rw[←h.len];exact(sg.play a b c d).2
theorem wu{r:Rul}(h:((AO r).2==0)=true):(AO r).1=⟨r,1,0,false,[],0,0,0,0,0⟩∧B8 r=0:=by
 unfold AO at h⊢
 grind
theorem MH{r:Rul}{L:Rows}{n:Nat}(hc:((AO r).2==0)=true)(ha:acc L n 0 (AO r).1):∀i,i≤n→LogI L i (stM L i 0 (AO r).1)∧StepOk r (stM L i 0 (AO r).1)∧∀j,j<i→Fn (stM L (j+1) 0 (AO r).1)=Xa r (evR L j) (Fn (stM L j 0 (AO r).1))∧EvF L j
 |0,_=>by
  refine⟨?_,xc r hc,fun j hj=>absurd hj (Nat.not_lt_zero j)⟩;show LogI L 0 (AO r).1;rw[(wu hc).1];exact⟨rfl,fun v h=>(by cases h),fun _=>rfl,rfl,fun h=>(by cases h)⟩
 |i+1,hi=>by
  obtain⟨h1,h2,h3⟩:=MH hc ha i (by omega);have a0:=PP n 0 _ ha i (by omega);have s0:=Ux (L:=L) i 0 (AO r).1;rw[Nat.zero_add]at a0 s0;have q:=(YX a0).1;rw[q]at s0 a0;obtain⟨l1,l2⟩:=ABx h1 a0;rw[s0];refine⟨l1,by rw[←q];exact ri h2 _ _,fun j hj=>?_⟩
  by_cases e:j=i
  ·subst e;rw[s0];refine⟨?_,l2⟩;rw[(uv a0).1,h2.rules]
  grind
def sdF(L:Rows)(n:Nat)(j:Nat):Int:=Ne ((Ed L n).getD 1) (FT L n) (j:Int)
theorem uI{L:Rows}{i:Nat}:∀n,i≤n→(∀j,i≤j→j<n→((evR L j).kind==12)=false)→FT L n=FT L i
 |0,h,_=>by simp_all
 |n+1,h,hk=>by
  by_cases e:i=n+1
  ·rw[e]
  have:FT L (n+1)=FT L n:=by
   show(FT L n||((evR L n).kind==12&&_))=_
   grind
  rw[this];exact uI n (by omega) (fun j h1 h2=>hk j h1 (by omega))
theorem ACX(f:Int)(a b:Bool){j:Nat}(h:j<2):Ne f a (j:Int)=Ne f b (j:Int):=by
 have:iLe 2 (j:Int)=false:=by simp only[iLe,decide_eq_false_iff_not];omega
 unfold Ne
 simp_all
theorem AD1{r:Rul}{L:Rows}{n i:Nat}(hc:((AO r).2==0)=true)(ha:acc L n 0 (AO r).1)(hi:i<n)(hk:((evR L i).kind==2)=true) :
    Ne (stM L i 0 (AO r).1).first (stM L i 0 (AO r).1).follow (opn L i:Int)=sdF L n (opn L i)∧(sdF L n (opn L i)=1∨sdF L n (opn L i)=2):=by
  obtain⟨h1,_,_⟩:=MH hc ha i (by omega);obtain⟨_,_,h3⟩:=MH hc ha n (Nat.le_refl n);obtain⟨e1,v,e2,e3⟩:=(h3 i hi).2.two hk;have f1:=(h1.fs v e2).1;have f2:=gj e2 (show i≤n by omega);have main:Ne (stM L i 0 (AO r).1).first (stM L i 0 (AO r).1).follow (opn L i:Int)=sdF L n (opn L i):=by
    unfold sdF;rw[f1,f2,h1.fol];show Ne v _ _=Ne v _ _
    by_cases h2:opn L i<2
    · exact ACX _ _ _ h2
    rw[uI (i:=i) n (by omega)];intro j j1 j2;cases k12:(evR L j).kind==12
    · rfl
    have o2:=(h3 j j2).2.twelve k12
    by_cases e:j=i
    · simp_all
    have:=Ei L (show i+1≤j by omega);have o3:opn L (i+1)=opn L i+1:=by show opn L i+cond ((evR L i).kind==2) 1 0=_;grind
    omega
  refine⟨main,?_⟩;rw[←main,f1];unfold Ne;cases cond ((stM L i 0 (AO r).1).follow&&iLe 2 (opn L i:Int)) ((opn L i:Int)==2) ((opn L i:Int).tmod 2==1)
  · exact e3
  rcases e3 with h|h<;>rw[h]<;>decide
def smi(L:Rows)(f:Ev→Int)(j:Nat):Nat→Int
 |0=>0
 |n+1=>smi L f j n+cond (Nat.beq (opn L (n+1)) (j+1)) (f (evR L n)) 0
theorem CM(L:Rows)(f:Ev→Int)(j n:Nat):smi L f j (n+1)=smi L f j n+cond (Nat.beq (opn L (n+1)) (j+1)) (f (evR L n)) 0:=rfl
theorem J2{a b:Nat}(h:¬a=b):Nat.beq a b=false:=by
 cases hq:Nat.beq a b
 ·rfl
 simp_all
theorem KE(a:Nat):Nat.beq a a=true:=Nat.beq_refl a
theorem U8{L:Rows}{f:Ev→Int}{j:Nat}:∀n,opn L n≤j→smi L f j n=0
 |0,_=>rfl
 |n+1,h=>by
  have:=Nj L n;unfold smi;rw[U8 n (by omega),J2 (by omega)];rfl
def YG(sd:Nat→Int)(s:Int):Nat→Nat→Option Nat
 |0,_=>none
 |c+1,i=>cond (sd i==s) (some i) (YG sd s c (i+1))
theorem VM{sd:Nat→Int}{s:Int}{j:Nat}:∀c i,YG sd s c i=some j→i≤j∧j<i+c∧sd j=s∧∀k,i≤k→k<j→¬sd k=s
 |0,_,h=>by cases h
 |c+1,i,h=>by
  unfold YG at h;cases hq:sd i==s
  ·rw[hq]at h;obtain⟨h1,h2,h3,h4⟩:=VM c (i+1) h
   grind
  grind
theorem AAE{sd:Nat→Int}{s:Int}{k:Nat}(hs:sd k=s):∀c i,i≤k→k<i+c→∃j,YG sd s c i=some j∧j≤k
 |0,_,h1,h2=>absurd h2 (by omega)
 |c+1,i,h1,h2=>by
  unfold YG;cases hq:sd i==s
  ·have:¬i=k:=fun e=>by simp_all
   exact AAE hs c (i+1) (by omega) (by omega)
  simp_all
def Eg(sd:Nat→Int)(n k:Nat)(s:Int):Option Nat:=match CW sd s (k+1)with
 |some j=>some j
 |none=>YG sd s (n-(k+1)) (k+1)
theorem uM{sd:Nat→Int}{n k j:Nat}{s:Int}(h:Eg sd n k s=some j):sd j=s∧(j≤k∨(k<j∧j<n∧CW sd s (k+1)=none)):=by
 unfold Eg at h;cases hb:CW sd s (k+1)with
 |some w=>
  rw[hb]at h;cases h;have:=K0 _ hb;omega
 |none=>
  rw[hb]at h;obtain⟨h1,h2,h3,h4⟩:=VM _ _ h
  grind
def isS(o:Option Nat)(j:Nat):Bool:=match o with
 |some k=>Nat.beq k j
 |none=>false
theorem fM{o:Option Nat}{j:Nat}:isS o j=true↔o=some j:=by
 cases o with
 |none=>exact⟨fun h=>(by cases h),fun h=>(by cases h)⟩
 |some k=>exact⟨fun h=>(by rw[Nat.eq_of_beq_eq_true h]),fun h=>(by cases h;exact KE j)⟩
def pnS(L:Rows)(sd:Nat→Int)(n j:Nat):Nat→Int
 |0=>0
 |i+1=>pnS L sd n j i+cond ((evR L i).kind==13&&isS (Eg sd n (opn L (i+1)-1) (evR L i).side) j) 5 0
theorem ng(L:Rows)(sd:Nat→Int)(n j i:Nat):pnS L sd n j (i+1)=pnS L sd n j i+cond ((evR L i).kind==13&&isS (Eg sd n (opn L (i+1)-1) (evR L i).side) j) 5 0:=rfl
def pcS(L:Rows)(s:Int):Nat→Int
 |0=>0
 |i+1=>pcS L s i+cond ((evR L i).kind==13&&(evR L i).side==s) 5 0
def Ft(L:Rows)(sd:Nat→Int)(s:Int)(k i:Nat):Int:=match CW sd s k with
 |some _=>0
 |none=>pcS L s i
theorem xd{L:Rows}{sd:Nat→Int}{n k:Nat}(hn:k<n):∀i,(∀j,j<i→((evR L j).kind==13)=true→1≤opn L (j+1))→opn L i≤k→pnS L sd n k i=Ft L sd (sd k) k i
 |0,_,_=>by unfold Ft;cases CW sd (sd k) k<;>rfl
 |i+1,h,hk=>by
  have ih:=xd (sd:=sd) hn i (fun j hj=>h j (by omega)) (Nat.le_trans (Nj L i) hk);unfold pnS;rw[ih];unfold Ft;cases k13:(evR L i).kind==13
  ·rw[Bool.false_and,cond_false,Int.add_zero];cases CW sd (sd k) k with
   |some _=>rfl
   |none=>
    show pcS L (sd k) i=pcS L (sd k) i+cond ((evR L i).kind==13&&_) 5 0
    grind
  have o1:=h i (Nat.lt_succ_self i) k13;rw[Bool.true_and]
  by_cases es:(evR L i).side=sd k
  ·cases hb:CW sd (sd k) k with
   |some w=>
    have bw:=K0 _ hb;have:isS (Eg sd n (opn L (i+1)-1) (evR L i).side) k=false:=by
     cases hq:isS (Eg sd n (opn L (i+1)-1) (evR L i).side) k
     ·rfl
     exfalso
     have hd:=fM.1 hq;rw[es]at hd;unfold Eg at hd;rw[show opn L (i+1)-1+1=opn L (i+1) by omega]at hd;cases hb2:CW sd (sd k) (opn L (i+1))with
     |some z=>
      rw[hb2]at hd;cases hd;have:=(K0 _ hb2).1;omega
     |none=>
      rw[hb2]at hd;have nb:=dC _ hb2;have f4:=(VM _ _ hd).2.2.2 w
      simp_all
    simp_all
   |none=>
    have nb:=dC _ hb;have:isS (Eg sd n (opn L (i+1)-1) (evR L i).side) k=true:=by
     rw[fM,es];unfold Eg;rw[show opn L (i+1)-1+1=opn L (i+1) by omega];cases hb2:CW sd (sd k) (opn L (i+1))with
     |some z=>
      have:=K0 _ hb2
      grind
     |none=>
      obtain⟨j,j1,j2⟩:=AAE (sd:=sd) (s:=sd k) (k:=k) rfl (n-opn L (i+1)) (opn L (i+1)) hk (by omega);have:=VM _ _ j1
      grind
    rw[this];show pcS L (sd k) i+_=pcS L (sd k) i+cond ((evR L i).kind==13&&(evR L i).side==sd k) 5 0
    simp_all
  have:isS (Eg sd n (opn L (i+1)-1) (evR L i).side) k=false:=by
   cases hq:isS (Eg sd n (opn L (i+1)-1) (evR L i).side) k
   ·rfl
   exact absurd (uM (fM.1 hq)).1.symm es
  rw[this,cond_false,Int.add_zero];cases CW sd (sd k) k with
  |some _=>rfl
  |none=>
   show pcS L (sd k) i=pcS L (sd k) i+cond ((evR L i).kind==13&&(evR L i).side==sd k) 5 0
   grind
def ET(r:Rul)(e:Ev):Int:=Bk (BM r e)
def Ql(r:Rul)(e:Ev):Int:=cond (BM r e).counts 1 0
def BX(r:Rul)(L:Rows)(sd:Nat→Int)(n j i:Nat):Sco:=⟨sd j,smi L (ET r) j i+pnS L sd n j i,smi L Da j i,smi L (Ql r) j i,smi L (fun e=>(BM r e).wides) j i,smi L (fun e=>(BM r e).noballs) j i,smi L (fun e=>(BM r e).byes) j i,smi L (fun e=>(BM r e).legbyes) j i,pnS L sd n j i,0⟩
theorem aJ(r:Rul)(L:Rows)(sd:Nat→Int)(n j i:Nat):BX r L sd n j (i+1)=LG (cond ((evR L i).kind==13&&isS (Eg sd n (opn L (i+1)-1) (evR L i).side) j) 5 0) (cond (Nat.beq (opn L (i+1)) (j+1)) (Q5 r (evR L i) (BX r L sd n j i)) (BX r L sd n j i)):=by
 unfold BX;simp only[CM,ng];generalize(cond ((evR L i).kind==13&&isS (Eg sd n (opn L (i+1)-1) (evR L i).side) j) 5 0:Int)=p;cases Nat.beq (opn L (i+1)) (j+1)
 ·unfold LG
  grind
 unfold LG Q5;simp only[cond_true];rw[Sco.mk.injEq];refine⟨rfl,?_,rfl,rfl,rfl,rfl,rfl,rfl,rfl,rfl⟩;unfold ET;omega
theorem pw{r:Rul}{L:Rows}{sd:Nat→Int}{n j i:Nat}(h4:((evR L i).kind==4)=false)(h13:((evR L i).kind==13)=false)(ho:Cf (evR L i)=0):BX r L sd n j (i+1)=BX r L sd n j i:=by
 rw[aJ,h13,Bool.false_and,cond_false,Cw,OY _ h4 ho]
 simp_all
structure Clo(r:Rul)(L:Rows)(sd:Nat→Int)(n i:Nat)(T:TS):Prop where
 len:T.xs.length=opn L i
 at':∀j,j<opn L i→sco T.xs j=BX r L sd n j i
 p1:T.p1=Ft L sd 1 (opn L i) i
 p2:T.p2=Ft L sd 2 (opn L i) i
theorem Hn{L:Rows}{sd:Nat→Int}{s:Int}{k i:Nat}(h:((evR L i).kind==13&&(evR L i).side==s)=false):Ft L sd s k (i+1)=Ft L sd s k i:=by
 unfold Ft;cases CW sd s k with
 |some _=>rfl
 |none=>
  show pcS L s i+cond ((evR L i).kind==13&&(evR L i).side==s) 5 0=_
  grind
theorem uJ{r:Rul}{L:Rows}{n:Nat}(hc:((AO r).2==0)=true)(ha:acc L n 0 (AO r).1):∀i,i≤n→Clo r L (sdF L n) (opn L n) i (Fn (stM L i 0 (AO r).1))
 |0,_=>by
  show Clo r L _ _ 0 (Fn (AO r).1);rw[(wu hc).1];exact⟨rfl,fun j hj=>absurd hj (Nat.not_lt_zero j),rfl,rfl⟩
 |i+1,hi=>by
  have ih:=uJ hc ha i (by omega);obtain⟨_,_,h3⟩:=MH hc ha n (Nat.le_refl n);obtain⟨hst,hev⟩:=h3 i (by omega);have sat:=AD1 hc ha (show i<n by omega);have o13:∀j,j<i→((evR L j).kind==13)=true→1≤opn L (j+1):=fun j hj k13=>by
   have e:=beq_iff_eq.1 k13;have:=(h3 j (by omega)).2.play (by rw[e];rfl) (by rw[e];rfl) (by rw[e];rfl) (by rw[e];rfl);exact Nat.le_trans this (Nj L j)
  rw[hst];change((evR L i).kind==2)=true→Ne (Fn (stM L i 0 (AO r).1)).first (Fn (stM L i 0 (AO r).1)).follow (opn L i:Int)=_∧_ at sat;generalize Fn (stM L i 0 (AO r).1)=T at ih sat;have onx:opn L (i+1)=opn L i+cond ((evR L i).kind==2) 1 0:=rfl;have quiet:((evR L i).kind==2)=false→((evR L i).kind==4)=false→((evR L i).kind==13)=false→Cf (evR L i)=0→∀T':TS,T'.xs=T.xs→T'.p1=T.p1→T'.p2=T.p2→Clo r L (sdF L n) (opn L n) (i+1) T':=by
   intro a b c d T' t1 t2 t3;rw[a]at onx;change opn L (i+1)=opn L i at onx;have z:∀s:Int,((evR L i).kind==13&&(evR L i).side==s)=false:=fun s=>by rw[c];rfl
   refine⟨by rw[onx,t1];exact ih.len,fun j hj=>?_,?_,?_⟩
   ·rw[t1,pw b c d];exact ih.at' j (by omega)
   ·rw[onx,t2,Hn (z 1)];exact ih.p1
   rw[onx,t3,Hn (z 2)];exact ih.p2
  unfold Xa;cases k1:(evR L i).kind==1
  ·cases k2:(evR L i).kind==2
   ·cases k12:(evR L i).kind==12
    ·cases k16:(evR L i).kind==16
     ·have pl:=hev.play k1 k2 k12 k16;rw[k2]at onx;change opn L (i+1)=opn L i at onx;simp only[cond_false];cases k13:(evR L i).kind==13
      ·have z:∀s:Int,((evR L i).kind==13&&(evR L i).side==s)=false:=fun s=>by grind
       show Clo r L (sdF L n) (opn L n) (i+1) (rW r (evR L i) T);unfold rW;refine⟨by rw[onx];exact List.length_set.trans ih.len,fun j hj=>?_,?_,?_⟩
       ·show sco (T.xs.set _ _) j=_;rw[Yi _ _ _ _ (by rw[ih.len];omega),aJ,k13,Bool.false_and,cond_false,Cw,onx,ih.len]
        by_cases ew:opn L i-1=j
        ·rw[if_pos ew,show opn L i=j+1 by omega,KE,show j+1-1=j by omega,ih.at' j (by omega)];rfl
        rw[if_neg ew,J2 (by omega)];exact ih.at' j (by omega)
       ·rw[onx,Hn (z 1)];exact ih.p1
       rw[onx,Hn (z 2)];exact ih.p2
      have e:=beq_iff_eq.1 k13;have h4:((evR L i).kind==4)=false:=by rw[e];rfl
      have ho:Cf (evR L i)=0:=by unfold Cf;rw[e];rfl
      have bk:CW (fun k=>(sco T.xs k).side) (evR L i).side T.xs.length=CW (sdF L n) (evR L i).side (opn L i):=by
       rw[ih.len];exact Zh _ (fun k hk=>by rw[ih.at' k hk];rfl)
      have du:Eg (sdF L n) (opn L n) (opn L (i+1)-1) (evR L i).side=match CW (sdF L n) (evR L i).side (opn L i)with
       |some j=>some j
       |none=>YG (sdF L n) (evR L i).side (opn L n-opn L i) (opn L i):=by
       unfold Eg
       simp_all
      have cs:∀j,BX r L (sdF L n) (opn L n) j (i+1)=LG (cond (isS (Eg (sdF L n) (opn L n) (opn L (i+1)-1) (evR L i).side) j) 5 0) (BX r L (sdF L n) (opn L n) j i):=fun j=>by
       rw[aJ,k13,Bool.true_and,OY _ h4 ho]
       simp_all
      have pq:∀s:Int,CW (sdF L n) (evR L i).side (opn L i)≠none→Ft L (sdF L n) s (opn L i) (i+1)=Ft L (sdF L n) s (opn L i) i:=fun s hs=>by
       by_cases es:(evR L i).side=s
       ·rw[es]at hs;unfold Ft
        grind
       exact Hn (by simp_all)
      show Clo r L (sdF L n) (opn L n) (i+1) (ay (evR L i).side T);unfold ay;rw[bk];cases hb:CW (sdF L n) (evR L i).side (opn L i)with
      |some w=>
       have wl:=(K0 _ hb).1;rw[hb]at du pq;simp only at du;refine⟨by rw[onx];exact List.length_set.trans ih.len,fun j hj=>?_,?_,?_⟩
       ·rw[cs,du];show sco (T.xs.set w (LG 5 (sco T.xs w))) j=_;rw[Yi _ _ _ _ (by rw[ih.len];omega)]
        by_cases ew:w=j
        ·subst ew;rw[if_pos rfl,ih.at' w wl,show isS (some w) w=true from KE w];rfl
        rw[if_neg ew,show isS (some w) j=false from J2 ew,ih.at' j (by omega),cond_false,Cw]
       ·rw[onx,pq 1 (by simp)];exact ih.p1
       rw[onx,pq 2 (by simp)];exact ih.p2
      |none=>
       rw[hb]at du;simp only at du;have pc:∀s:Int,Ft L (sdF L n) s (opn L i) (i+1)=cond ((evR L i).side==s) (Ft L (sdF L n) s (opn L i) i+5) (Ft L (sdF L n) s (opn L i) i):=fun s=>by
        cases es:(evR L i).side==s
        ·rw[Hn (by simp_all)];rfl
        have e2:=beq_iff_eq.1 es;rw[e2]at hb;unfold Ft;rw[hb];show pcS L s i+cond ((evR L i).kind==13&&(evR L i).side==s) 5 0=_
        simp_all
       refine⟨by rw[onx];exact ih.len,fun j hj=>?_,?_,?_⟩
       ·have nj:isS (Eg (sdF L n) (opn L n) (opn L (i+1)-1) (evR L i).side) j=false:=by
         cases hq:isS (Eg (sdF L n) (opn L n) (opn L (i+1)-1) (evR L i).side) j
         ·rfl
         have:=fM.1 hq;rw[du]at this;have:=(VM _ _ this).1;omega
        rw[cs,nj,cond_false,Cw];exact ih.at' j (by omega)
       ·rw[onx,pc 1,←ih.p1]
       rw[onx,pc 2,←ih.p2]
     have e:=beq_iff_eq.1 k16;exact quiet (by rw[e];rfl) (by rw[e];rfl) (by rw[e];rfl) (by unfold Cf;rw[e];rfl) _ rfl rfl rfl
    have e:=beq_iff_eq.1 k12;exact quiet (by rw[e];rfl) (by rw[e];rfl) (by rw[e];rfl) (by unfold Cf;rw[e];rfl) _ rfl rfl rfl
   have e:=beq_iff_eq.1 k2;have h4:((evR L i).kind==4)=false:=by rw[e];rfl
   have h13:((evR L i).kind==13)=false:=by rw[e];rfl
   have ho:Cf (evR L i)=0:=by unfold Cf;rw[e];rfl
   have z:∀s:Int,((evR L i).kind==13&&(evR L i).side==s)=false:=fun s=>by grind
   rw[k2]at onx;change opn L (i+1)=opn L i+1 at onx;obtain⟨sa,sb⟩:=sat k2;have kn:opn L i<opn L n:=by have:=Ei L (show i+1≤n by omega);omega
   have pp:=xd (L:=L) (sd:=sdF L n) kn i o13 (Nat.le_refl _);show Clo r L (sdF L n) (opn L n) (i+1) (rU T);unfold rU;simp only[ih.len,sa];refine⟨by rw[List.length_append,ih.len,onx];rfl,fun j hj=>?_,?_,?_⟩
   ·rw[ADg _ _ _ (by rw[ih.len];omega),ih.len,pw h4 h13 ho]
    by_cases hjk:j<opn L i
    ·rw[if_pos hjk];exact ih.at' j hjk
    have:j=opn L i:=by omega
    subst this;rw[if_neg hjk];unfold BX uw;simp only[U8 i (Nat.le_refl _),Int.zero_add,pp]
    rcases sb with sb|sb<;>rw[sb]
    ·rw[←ih.p1];rfl
    rw[←ih.p2];rfl
   ·rw[onx];show cond (sdF L n (opn L i)==1) 0 T.p1=Ft L (sdF L n) 1 (opn L i+1) (i+1);rw[Hn (z 1)];unfold Ft CW;cases sdF L n (opn L i)==1
    ·exact ih.p1
    rfl
   rw[onx];show cond (sdF L n (opn L i)==2) 0 T.p2=Ft L (sdF L n) 2 (opn L i+1) (i+1);rw[Hn (z 2)];unfold Ft CW;cases sdF L n (opn L i)==2
   ·exact ih.p2
   rfl
  have e:=beq_iff_eq.1 k1;exact quiet (by rw[e];rfl) (by rw[e];rfl) (by rw[e];rfl) (by unfold Cf;rw[e];rfl) _ rfl rfl rfl
def Sco.ls(s:Sco):List PV:=[.int s.side,.int s.runs,.int s.wickets,.int s.balls,.int s.wides,.int s.noballs,.int s.byes,.int s.legbyes,.int s.pens,.int s.ending]
def A6(xs:List Sco):Rows:=xs.map Sco.ls
def dS:Sco:=⟨0,0,0,0,0,0,0,0,0,0⟩
theorem w9(xs:List Sco)(i:Nat):AB (A6 xs) i=(match xs[i]? with|some s=>s.ls|none=>[]):=by
 unfold AB A6
 grind
theorem ut(xs:List Sco):(A6 xs).length=xs.length:=List.length_map _
theorem PXs:(∀xs:List Sco,(A6 xs).length=xs.length)∧(∀(xs:List Sco) (i:Nat),pvI (AD (A6 xs) i 0)=(sco xs i).side)∧(∀(xs:List Sco) (i:Nat),pvI (AD (A6 xs) i 1)=(sco xs i).runs)∧(∀(xs:List Sco) (i:Nat),pvI (AD (A6 xs) i 2)=(sco xs i).wickets)∧(∀(xs:List Sco) (i:Nat),pvI (AD (A6 xs) i 3)=(sco xs i).balls) ∧
    (∀(xs:List Sco) (i:Nat),pvI (AD (A6 xs) i 4)=(sco xs i).wides)∧(∀(xs:List Sco) (i:Nat),pvI (AD (A6 xs) i 5)=(sco xs i).noballs)∧(∀(xs:List Sco) (i:Nat),pvI (AD (A6 xs) i 6)=(sco xs i).byes)∧(∀(xs:List Sco) (i:Nat),pvI (AD (A6 xs) i 7)=(sco xs i).legbyes)∧(∀(xs:List Sco) (i:Nat),pvI (AD (A6 xs) i 8)=(sco xs i).pens)∧(∀(xs:List Sco) (i:Nat),pvI (AD (A6 xs) i 9)=(sco xs i).ending):=by
  refine⟨ut,?_,?_,?_,?_,?_,?_,?_,?_,?_,?_⟩
  all_goals (intro xs i;rw[GL];unfold AD;rw[w9];cases xs[i]?<;>rfl)
theorem D2{xs:List Sco}{i j:Nat}{v:Int}(f:Sco→Sco)(h:∀s:Sco,Ad s.ls j [.int v]=(f s).ls):(A6 xs).set i (Ad (AB (A6 xs) i) j [.int v])=A6 (xs.set i (f (sco xs i))):=by
 by_cases hi:i<xs.length
 ·have e:AB (A6 xs) i=(sco xs i).ls:=by rw[w9,GL,zzo hi]
  rw[e,h];exact List.map_set.symm
 rw[List.set_eq_of_length_le (by rw[ut];omega),List.set_eq_of_length_le (by omega)]
theorem PXt:(∀(xs:List Sco) (i:Nat) (v:Int),(A6 xs).set i (Ad (AB (A6 xs) i) 0 [.int v])=A6 (xs.set i { sco xs i with side:=v }))∧(∀(xs:List Sco) (i:Nat) (v:Int),(A6 xs).set i (Ad (AB (A6 xs) i) 1 [.int v])=A6 (xs.set i { sco xs i with runs:=v })) ∧
    (∀(xs:List Sco) (i:Nat) (v:Int),(A6 xs).set i (Ad (AB (A6 xs) i) 2 [.int v])=A6 (xs.set i { sco xs i with wickets:=v }))∧(∀(xs:List Sco) (i:Nat) (v:Int),(A6 xs).set i (Ad (AB (A6 xs) i) 3 [.int v])=A6 (xs.set i { sco xs i with balls:=v })) ∧
    (∀(xs:List Sco) (i:Nat) (v:Int),(A6 xs).set i (Ad (AB (A6 xs) i) 4 [.int v])=A6 (xs.set i { sco xs i with wides:=v }))∧(∀(xs:List Sco) (i:Nat) (v:Int),(A6 xs).set i (Ad (AB (A6 xs) i) 5 [.int v])=A6 (xs.set i { sco xs i with noballs:=v })) ∧
    (∀(xs:List Sco) (i:Nat) (v:Int),(A6 xs).set i (Ad (AB (A6 xs) i) 6 [.int v])=A6 (xs.set i { sco xs i with byes:=v }))∧(∀(xs:List Sco) (i:Nat) (v:Int),(A6 xs).set i (Ad (AB (A6 xs) i) 7 [.int v])=A6 (xs.set i { sco xs i with legbyes:=v })) ∧
    (∀(xs:List Sco) (i:Nat) (v:Int),(A6 xs).set i (Ad (AB (A6 xs) i) 8 [.int v])=A6 (xs.set i { sco xs i with pens:=v }))∧(∀(xs:List Sco) (i:Nat) (v:Int),(A6 xs).set i (Ad (AB (A6 xs) i) 9 [.int v])=A6 (xs.set i { sco xs i with ending:=v })) ∧
    (∀(xs:List Sco) (a b c d e f g h i j:Int),A6 xs++[([.int a,.int b,.int c,.int d,.int e,.int f,.int g,.int h,.int i,.int j]:List PV)]=A6 (xs++[⟨a,b,c,d,e,f,g,h,i,j⟩])):=by
  exact⟨fun xs i v=>D2 (j:=0) (v:=v) (fun s=>{ s with side:=v }) (fun s=>rfl),fun xs i v=>D2 (j:=1) (v:=v) (fun s=>{ s with runs:=v }) (fun s=>rfl),fun xs i v=>D2 (j:=2) (v:=v) (fun s=>{ s with wickets:=v }) (fun s=>rfl),fun xs i v=>D2 (j:=3) (v:=v) (fun s=>{ s with balls:=v }) (fun s=>rfl),fun xs i v=>D2 (j:=4) (v:=v) (fun s=>{ s with wides:=v }) (fun s=>rfl),fun xs i v=>D2 (j:=5) (v:=v) (fun s=>{ s with noballs:=v }) (fun s=>rfl),fun xs i v=>D2 (j:=6) (v:=v) (fun s=>{ s with byes:=v }) (fun s=>rfl),fun xs i v=>D2 (j:=7) (v:=v) (fun s=>{ s with legbyes:=v }) (fun s=>rfl),fun xs i v=>D2 (j:=8) (v:=v) (fun s=>{ s with pens:=v }) (fun s=>rfl),fun xs i v=>D2 (j:=9) (v:=v) (fun s=>{ s with ending:=v }) (fun s=>rfl),
    fun xs a b c d e f g h i j=>(List.map_append (f:=Sco.ls) (l₁:=xs) (l₂:=[⟨a,b,c,d,e,f,g,h,i,j⟩])).symm⟩
theorem AC7(n:Nat):List.replicate n ([.int 0,.int 0,.int 0,.int 0,.int 0,.int 0,.int 0,.int 0,.int 0,.int 0]:List PV)=A6 (List.replicate n dS):=by
 unfold A6;rw[List.map_replicate];rfl
def Fx(xs:List (Int×Int)):Rows:=xs.map fun x=>[.int x.1,.int x.2]
def pr(xs:List (Int×Int))(i:Nat):Int×Int:=xs.getD i (0,0)
theorem aY(xs:List (Int×Int))(i:Nat):pr xs i=(match xs[i]? with|some s=>s|none=>(0,0)):=by
 unfold pr
 grind
theorem tn(xs:List (Int×Int))(i:Nat):AB (Fx xs) i=(match xs[i]? with|some s=>[.int s.1,.int s.2]|none=>[]):=by
 unfold AB Fx
 grind
theorem sP(xs:List (Int×Int)):(Fx xs).length=xs.length:=List.length_map _
theorem PXp:(∀xs:List (Int×Int),(Fx xs).length=xs.length)∧(∀(xs:List (Int×Int)) (i:Nat),pvI (AD (Fx xs) i 0)=(pr xs i).1)∧(∀(xs:List (Int×Int)) (i:Nat),pvI (AD (Fx xs) i 1)=(pr xs i).2) ∧
    (∀(xs:List (Int×Int)) (i:Nat) (v:Int),(Fx xs).set i (Ad (AB (Fx xs) i) 1 [.int v])=Fx (xs.set i ((pr xs i).1,v)))∧(∀(xs:List (Int×Int)) (a b:Int),Fx xs++[([.int a,.int b]:List PV)]=Fx (xs++[(a,b)])):=by
  refine⟨sP,?_,?_,?_,?_⟩
  · intro xs i;rw[aY];unfold AD;rw[tn];cases xs[i]?<;>rfl
  · intro xs i;rw[aY];unfold AD;rw[tn];cases xs[i]?<;>rfl
  · intro xs i v
    by_cases hi:i<xs.length
    · have e:AB (Fx xs) i=[.int (pr xs i).1,.int (pr xs i).2]:=by rw[tn,aY,zzo hi]
      rw[e];exact(List.map_set (f:=fun x:Int×Int=>[PV.int x.1,PV.int x.2]) (l:=xs) (i:=i) (a:=((pr xs i).1,v))).symm
    rw[List.set_eq_of_length_le (by rw[sP];omega),List.set_eq_of_length_le (by omega)]
  intro xs a b;exact(List.map_append (f:=fun x:Int×Int=>[PV.int x.1,PV.int x.2]) (l₁:=xs) (l₂:=[(a,b)])).symm
end Go.Px
end
