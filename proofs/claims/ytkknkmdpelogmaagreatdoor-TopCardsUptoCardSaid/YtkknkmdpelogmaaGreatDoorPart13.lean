/- Part 13. -/
import Derived.Test.YtkknkmdpelogmaaGreatDoorPart12
import Derived.Test.YtkknkmdpelogmaaGreatDoorPart11
set_option linter.unusedVariables false
set_option linter.unusedSimpArgs false
variable {r1 r2 r3 r4 r5 r6 r7 r9 r10 r11 r12:Int}
variable {m1 m2 m3 m4 m5 m6 m7 m9 m10 m11 m12 m14 m15 m18 m19 m20 m21 m22:Int}
section
namespace Go.Px
set_option maxRecDepth 100000
theorem Yl{x a b:Int}:btw x a b=true↔a≤x∧x≤b:=by simp[btw,iLe]
structure RulOk(r:Rul):Prop where
 side:2≤r.side∧r.side≤11
 innings:1≤r.innings∧r.innings≤2
 overs:0≤r.overs∧r.overs≤90
 balls:4≤r.balls∧r.balls≤8
 quota:0≤r.quota∧r.quota≤90
 wide:1≤r.wide∧r.wide≤5
 noball:1≤r.noball∧r.noball≤5
 newball:0≤r.newball∧r.newball≤200
 followon:0≤r.followon∧r.followon≤1000
 reviews:0≤r.reviews∧r.reviews≤9
 outside:0≤r.outside∧r.outside≤11
theorem Ek{r:Rul}(h:B8 r=0):RulOk r:=by
 unfold B8 Oa at h;cases hn:kE r.name
 ·simp_all
 cases hr:VP r.side r.innings r.overs r.balls r.quota r.wide r.noball r.newball r.followon r.reviews r.outside
 ·simp_all
 unfold VP at hr;simp only[zzk,Yl]at hr;obtain⟨⟨⟨⟨⟨⟨⟨⟨⟨⟨h1,h2⟩,h3⟩,h4⟩,h5⟩,h6⟩,h7⟩,h8⟩,h9⟩,h10⟩,h11⟩:=hr;exact⟨h1,h2,h3,h4,h5,h6,h7,h8,h9,h10,h11⟩
def CG(x:Int):Prop:=0≤x∧x≤1000000000
structure InnOk(r:Rul)(s:Inn):Prop where
 code:B8 r=0
 side:1≤s.side∧s.side≤2
 lb:(s.batters.length:Int)=r.side
 ld:(s.bowled.length:Int)=r.side
 lz:(s.subs.length:Int)=r.side
 ending:s.ending≤5
 st:0≤s.striker∧s.striker≤r.side
 ot:0≤s.other∧s.other≤r.side
 bat:mK s.batters s.striker s.other s.wickets=true
 bow:0≤s.bowler∧s.bowler≤r.side
 kee:0≤s.keeper∧s.keeper≤r.side
 dw:Sh s.bowlers r.side=true
 df:Sh s.before r.side=true
 ov:ni r.overs s.overs=true
 io:0≤s.inover∧s.inover≤r.balls-1
 target:CG s.target
 runs:CG s.runs
 wides:CG s.wides
 noballs:CG s.noballs
 byes:CG s.byes
 legbyes:CG s.legbyes
 pens:CG s.pens
 complete:CG s.complete
 ballage:CG s.ballage
 outside:CG s.outside
 rev1:CG s.rev1
 rev2:CG s.rev2
 bowled:Me Ku s.bowled=false
theorem ADP{x:Int}:Ku x=false↔CG x:=by
 unfold Ku CG;rw[Bool.not_eq_false',Yl]
theorem ABc(a b c d e f g h i j k l:Int):Me Ku (tH a b c d e f g h i j k l)=false↔CG a∧CG b∧CG c∧CG d∧CG e∧CG f∧CG g∧CG h∧CG i∧CG j∧CG k∧CG l:=by
 rw[Q3];simp only[tH,List.any_cons,List.any_nil,Bool.or_false,AAW,ADI,Bool.or_eq_false_iff,ADP]
theorem kZ{r:Rul}(h:RulOk r):IntKind.i64.wrap (r.balls-1)=r.balls-1:=by
 have:=h.balls;exact A0 (by omega) (by omega)
theorem xe{x:Int}:(!iLt 5 x)=true↔x≤5:=by
 rw[Bool.not_eq_true'];simp only[iLt,decide_eq_false_iff_not];omega
theorem LX{r:Rul}{s:Inn}:Ll r s=true↔InnOk r s:=by
 unfold Ll eI;simp only[zzk,Bool.not_eq_true',ABc,Yl];constructor
 ·intro⟨h1,h2,h3,h4,h5,h6,h7,h8,h9,h10,h11,h12,h13,h14,h15,⟨n1,n2,n3,n4,n5,n6,n7,n8,n9,n10,n11,n12⟩,h17⟩;have hc:B8 r=0:=beq_iff_eq.1 h1;exact⟨hc,h2,beq_iff_eq.1 h3,beq_iff_eq.1 h4,beq_iff_eq.1 h5,xe.1 (by grind),h7,h8,h9,h10,h11,h12,h13,h14,by rw[kZ (Ek hc)]at h15;exact h15,n1,n2,n3,n4,n5,n6,n7,n8,n9,n10,n11,n12,h17⟩
 intro h;have h6:=xe.2 h.ending;rw[Bool.not_eq_true']at h6;exact⟨beq_iff_eq.2 h.code,h.side,beq_iff_eq.2 h.lb,beq_iff_eq.2 h.ld,beq_iff_eq.2 h.lz,h6,h.st,h.ot,h.bat,h.bow,h.kee,h.dw,h.df,h.ov,by rw[kZ (Ek h.code)];exact h.io,
  ⟨h.target,h.runs,h.wides,h.noballs,h.byes,h.legbyes,h.pens,h.complete,h.ballage,h.outside,h.rev1,h.rev2⟩,h.bowled⟩
theorem RB(n:Int):IntKind.i64.wrap n=(n+9223372036854775808)%18446744073709551616-9223372036854775808:=by
 unfold IntKind.wrap;simp only[IntKind.signed,IntKind.bits]
 grind
theorem JA(n:Int):IntKind.i64.wrap (IntKind.i64.wrap n)=IntKind.i64.wrap n:=by
 simp only[RB];omega
theorem OZ(a b:Int):IntKind.i64.wrap (IntKind.i64.wrap (a+b)-a)=IntKind.i64.wrap b:=by
 simp only[RB];omega
theorem bF(a:Int):IntKind.i64.wrap (a-a)=0:=by rw[Int.sub_self];rfl
theorem jb(s:Inn)(d:Del):(A1 s d).runs=s.runs∧(A1 s d).wides=s.wides∧(A1 s d).noballs=s.noballs∧(A1 s d).byes=s.byes∧(A1 s d).legbyes=s.legbyes∧(A1 s d).pens=s.pens∧(A1 s d).complete=s.complete∧(A1 s d).inover=s.inover∧(A1 s d).bowler=s.bowler∧(A1 s d).bowled=s.bowled:=by
 unfold A1
 grind
def KO(r:Rul)(s:Inn)(d:Del):Inn:=
 let o:=BD r (A1 s d) (AF r d).counts
 let t:Inn:=cond o.2 (L4 o.1) o.1
 { t with runs:=IntKind.i64.wrap (s.runs+Bk (AF r d)),wides:=IntKind.i64.wrap (s.wides+(AF r d).wides),noballs:=IntKind.i64.wrap (s.noballs+(AF r d).noballs),byes:=IntKind.i64.wrap (s.byes+(AF r d).byes),legbyes:=IntKind.i64.wrap (s.legbyes+(AF r d).legbyes),freehit:=cond (d.type==1) false (cond (d.type==3&&r.freehit) true o.1.freehit) }
theorem nA{r:Rul}{s:Inn}{d:Del}(h:((NM r s d).2==0)=true):(Iu r s d==0)=true∧(NM r s d).1=KO r s d:=by
 unfold NM at h⊢;cases hr:Iu r s d==0
 ·simp_all
 refine⟨rfl,?_⟩;obtain⟨k1,k2,k3,k4,k5,_⟩:=jb s d;simp only[Bool.not_true,cond_false,uF,k1,k2,k3,k4,k5,KO];generalize BD r (A1 s d) (AF r d).counts=o;obtain⟨o1,o2⟩:=o;cases o2<;>rfl
theorem LW{r:Rul}{s:Inn}{d:Del}(h:(Iu r s d==0)=true):J8 s.batters s.striker s.other=false∧(s.bowler==0)=false∧(ZM r s==0)=true∧(D6 d==0)=true∧(Xj d s.freehit==0)=true∧(Yx s d==0)=true:=by
 unfold Iu at h;cases h1:J8 s.batters s.striker s.other
 ·cases h2:s.bowler==0
  ·rw[h1,h2]at h;change(mP _ _ _ _==0)=true at h;unfold mP at h
   grind
  simp_all
 simp_all
theorem YM{d:Del}{f:Bool}(h:(Xj d f==0)=true)(hd:(d.how==0)=false):(d.victim==1)=true∨(d.victim==2)=true:=by
 unfold Xj at h
 grind
theorem Zp{s:Inn}{e:Ev}(h:kS s e=false)(hk:(e.kind==2)=false):Dz s.batters=true:=by
 unfold kS at h
 simp_all
theorem xG{s:Inn}{d:Del}(h1:(s.striker==0)=false)(h2:(s.other==0)=false)(hv:(d.how==0)=false→(d.victim==1)=true∨(d.victim==2)=true) :
    (A1 s d).wickets=cond (d.how==0) s.wickets (inc s.wickets):=by
  unfold A1;rw[h1,h2];cases hd:d.how==0
  · rcases hv hd with h|h<;>rw[h]<;>cases(!(d.runs.tmod 2==0) != d.crossed)<;>cases d.victim==1<;>rfl
  grind
theorem xJ(r:Rul)(s:Inn)(b:Bool):(BD r s b).1.wickets=s.wickets∧(BD r s b).1.pens=s.pens:=by
 unfold BD
 grind
theorem zP{r:Rul}{s:Inn}{b:Bool}(hr:RulOk r)(hc:B8 r=0)(hb:inR s.bowler s.bowled.length=true)(hi:0≤s.inover∧s.inover≤r.balls-1)(hn:CG s.complete) :
    IntKind.i64.wrap (Db r.balls (BD r s b).1.complete (BD r s b).1.inover-Db r.balls s.complete s.inover)=cond b 1 0:=by
  have hk:∃k:Nat,r.balls=k:=⟨r.balls.toNat,by omega⟩;have hz:=hr.balls;unfold CG at hn;unfold BD Db;rw[hb,hc];cases b
  · have h1:iLt s.inover r.balls=true:=by simp only[iLt,decide_eq_true_eq];omega
    simp only[cond_false,h1,beq_self_eq_true,Bool.not_true,Bool.or_false,cond_true];exact bF _
  have h2:inc s.inover=s.inover+1:=A0 (by omega) (by omega);simp only[cond_true,h2,beq_self_eq_true,Bool.not_true,Bool.or_false,cond_false];have h3:inc s.complete=s.complete+1:=A0 (by omega) (by omega);have hb5:r.balls=4∨r.balls=5∨r.balls=6∨r.balls=7∨r.balls=8:=by omega
  cases h1:iLt (s.inover+1) r.balls
  · simp only[iLt,decide_eq_false_iff_not]at h1;simp only[cond_false,h3]
    rcases hb5 with e|e|e|e|e<;>rw[e]at hi h1⊢<;>simp only[RB]<;>omega
  simp only[cond_true]
  rcases hb5 with e|e|e|e|e<;>rw[e]at hi⊢<;>simp only[RB]<;>omega
theorem Z4{L:Rows}{s n:Int}(h:J8 L s n=false)(hb:Dz L=true):(s==0)=false∧(n==0)=false:=by
 unfold J8 at h
 simp_all
theorem AAg{r:Rul}{s:Inn}(h:InnOk r s)(hb:(s.bowler==0)=false):inR s.bowler s.bowled.length=true:=by
 have h1:=h.bow;have h2:=h.ld;rw[beq_eq_false_iff_ne]at hb;simp only[inR,iLe,zzk,decide_eq_true_eq];omega
theorem zj{r:Rul}{s:Inn}{e:Ev}(hk:(e.kind==4)=true)(h:((A7 r s e).2==0)=true) :
    IntKind.i64.wrap ((A7 r s e).1.runs-s.runs)=Bk (AF r e.ball)∧IntKind.i64.wrap ((A7 r s e).1.wides-s.wides)=(AF r e.ball).wides∧IntKind.i64.wrap ((A7 r s e).1.noballs-s.noballs)=(AF r e.ball).noballs ∧
    IntKind.i64.wrap ((A7 r s e).1.byes-s.byes)=(AF r e.ball).byes∧IntKind.i64.wrap ((A7 r s e).1.legbyes-s.legbyes)=(AF r e.ball).legbyes∧(A7 r s e).1.pens=s.pens ∧
    IntKind.i64.wrap (Db r.balls (A7 r s e).1.complete (A7 r s e).1.inover-Db r.balls s.complete s.inover)=cond (AF r e.ball).counts 1 0 ∧
    IntKind.i64.wrap ((A7 r s e).1.wickets-s.wickets)=cond (e.ball.how==0) 0 1∧(A7 r s e).1.fresh=true∧IntKind.i64.wrap (A7 r s e).1.runs=(A7 r s e).1.runs:=by
  obtain⟨hv,he,hn,hw,hp,hs⟩:=Qq h;have k4:=beq_iff_eq.1 hk;have hpb:Cx r s e=NM r s e.ball:=by unfold Cx;grind
  obtain⟨d,hd0⟩:∃d,d=e.ball:=⟨_,rfl⟩;rw[←hd0]at hpb⊢;rw[hpb]at hp hs;obtain⟨hr,hb⟩:=nA hp;obtain⟨q1,q2,q3,q4,q5,q6⟩:=LW hr;have ok:=LX.1 hv;have rk:=Ek ok.code;have hbeg:Dz s.batters=true:=Zp hw (by grind);obtain⟨z1,z2⟩:=Z4 q1 hbeg;have hin:=AAg ok q2;have hout:=xG (d:=d) z1 z2 (fun hd=>YM q5 hd);obtain⟨k1,k2,k3,k4,k5,k6,k7,k8,k9,k10⟩:=jb s d;have hbl:=zP (b:=(AF r d).counts) (s:=A1 s d) rk ok.code (by simp_all) (by rw[k8];exact ok.io) (by rw[k7];exact ok.complete);rw[k7,k8]at hbl;obtain⟨w1,w2⟩:=xJ r (A1 s d) (AF r d).counts;rw[hs,hb];have hc:AF r d=Kb r d:=by unfold AF;grind
  have ht:IntKind.i64.wrap (Bk (AF r d))=Bk (AF r d):=JA _;have c1:IntKind.i64.wrap (AF r d).wides=(AF r d).wides:=by rw[hc];unfold Kb;simp only;cases d.type==2<;>first|rfl|exact JA _
  have c2:IntKind.i64.wrap (AF r d).noballs=(AF r d).noballs:=by
    have:=rk.noball;rw[hc];unfold Kb;simp only;cases d.type==3<;>first|rfl|exact A0 (n:=r.noball) (by omega) (by omega)
  have c3:IntKind.i64.wrap (AF r d).byes=(AF r d).byes:=by rw[hc];unfold Kb;simp only;cases(!(d.type==2)&&d.source==2)<;>first|rfl|exact JA _
  have c4:IntKind.i64.wrap (AF r d).legbyes=(AF r d).legbyes:=by rw[hc];unfold Kb;simp only;cases(!(d.type==2)&&d.source==3)<;>first|rfl|exact JA _
  refine⟨(OZ _ _).trans ht,(OZ _ _).trans c1,(OZ _ _).trans c2,(OZ _ _).trans c3,(OZ _ _).trans c4,?_,?_,?_,hk,JA _⟩
  · have:(Cc r (KO r s d) (e.kind==4)).pens=(BD r (A1 s d) (AF r d).counts).1.pens:=by
      show(cond (BD r (A1 s d) (AF r d).counts).2 (L4 (BD r (A1 s d) (AF r d).counts).1) (BD r (A1 s d) (AF r d).counts).1).pens=_;cases(BD r (A1 s d) (AF r d).counts).2<;>rfl
    omega
  · have e1:(Cc r (KO r s d) (e.kind==4)).complete=(BD r (A1 s d) (AF r d).counts).1.complete:=by
      show(cond (BD r (A1 s d) (AF r d).counts).2 (L4 (BD r (A1 s d) (AF r d).counts).1) (BD r (A1 s d) (AF r d).counts).1).complete=_;cases(BD r (A1 s d) (AF r d).counts).2<;>rfl
    have e2:(Cc r (KO r s d) (e.kind==4)).inover=(BD r (A1 s d) (AF r d).counts).1.inover:=by
      show(cond (BD r (A1 s d) (AF r d).counts).2 (L4 (BD r (A1 s d) (AF r d).counts).1) (BD r (A1 s d) (AF r d).counts).1).inover=_;cases(BD r (A1 s d) (AF r d).counts).2<;>rfl
    simp_all
  have:(Cc r (KO r s d) (e.kind==4)).wickets=(BD r (A1 s d) (AF r d).counts).1.wickets:=by
    show(cond (BD r (A1 s d) (AF r d).counts).2 (L4 (BD r (A1 s d) (AF r d).counts).1) (BD r (A1 s d) (AF r d).counts).1).wickets=_;cases(BD r (A1 s d) (AF r d).counts).2<;>rfl
  rw[this,w1,hout];unfold inc;cases d.how==0
  · exact(OZ s.wickets 1).trans rfl
  exact bF _
def ACz:Inn:=⟨0,0,0,0,0,0,0,0,0,0,0,0,0,0,[],0,[],[],false,[],false,0,0,0,[],0,0,0⟩
def AFf(n:Nat)(overs side t p:Int):Inn:=⟨side,t,overs,p,0,0,0,0,0,p,0,0,0,0,List.replicate n [.int 0],0,[],[],false,List.replicate n [.int 0],false,0,0,0,List.replicate n [.bool false],0,0,0⟩
def DX(r:Rul)(side t p:Int):Inn×Int:=
 cond (!(B8 r==0)) (ACz,B8 r) (cond (!btw side 1 2 || !btw t 0 1000000 || !btw p 0 1000000) (ACz,2) (AFf r.side.toNat r.overs side t p,0))
theorem Wb{N:Nat}{r8:Bool}{r0:ByteArray}{r13:Rows}{a:Int}{b:Int}{c:Int}(hN:2097152<N)(hs:r0.size≤1048576):Hc N [.str r0,.int r1,.int r2,.int r3,.int r4,.int r5,.int r6,.int r7,.bool r8,.int r9,.int r10,.int r11,.int r12,.rows r13,.int a,.int b,.int c]=some (Bo (DX (⟨r0,r1,r2,r3,r4,r5,r6,r7,r8,r9,r10,r11,r12,r13⟩:Rul) a b c)):=by
 show Kk (std (IB N) N) (xOf _)=_;generalize hres:(some (Bo (DX (⟨r0,r1,r2,r3,r4,r5,r6,r7,r8,r9,r10,r11,r12,r13⟩:Rul) a b c)):Option (List PV))=RR;simp only[Kk,ST,Om,lq9,std,xOf,PXb,Dl hN hs,E9];subst hres;simp only[DX];cases hc:B8 (⟨r0,r1,r2,r3,r4,r5,r6,r7,r8,r9,r10,r11,r12,r13⟩:Rul)==0
 ·rfl
 have rk:=(Ek (beq_iff_eq.1 hc)).side;obtain⟨k,hk⟩:∃k:Nat,r1=k:=⟨r1.toNat,by grind⟩;subst hk;simp only at rk;have h1:iSm (k:Int) 1=true:=Dk (by omega) (by omega);have h8:iSm (k:Int) 8=true:=Dk (by omega) (by omega);simp only[PXb,PXc,PXn,PXm,Nat.reduceAdd,Int.reduceBEq,h1,h8];cases btw a 1 2<;>cases btw b 0 1000000<;>cases btw c 0 1000000<;>rfl
theorem UB(r:Rul)(side t p:Int):(DX r side t p).1.Fit∧(DX r side t p).1.before=[]∧(DX r side t p).1.bowlers=[]:=by
 unfold DX;cases hc:B8 r==0
 ·exact⟨⟨by show 0≤1048576;omega,by show 0≤1048576;omega,by show 0≤1048576;omega,by show 0≤1048576;omega,by show 0≤1048576;omega⟩,rfl,rfl⟩
 have hs:=(Ek (beq_iff_eq.1 hc)).side;have hl:∀x:List PV,(List.replicate r.side.toNat x).length≤1048576:=fun x=>by grind
 cases(!btw side 1 2 || !btw t 0 1000000 || !btw p 0 1000000)
 ·exact⟨⟨hl _,by show 0≤1048576;omega,by show 0≤1048576;omega,hl _,hl _⟩,rfl,rfl⟩
 exact⟨⟨by show 0≤1048576;omega,by show 0≤1048576;omega,by show 0≤1048576;omega,by show 0≤1048576;omega,by show 0≤1048576;omega⟩,rfl,rfl⟩
theorem ADt{s:Inn}(h:s.Fit):(WM s).Fit:=⟨h.bt,h.bw,h.bf,h.bd,h.sb⟩
def Shp(L:Rows):Prop:=∀r∈L,r≠[]
structure BatOk(L:Rows)(s n wk:Int):Prop where
 le:∀i,i<L.length→atI L i 0≤3
 at1:∀i,i<L.length→(atI L i 0=1↔(s=(i:Int)+1∨n=(i:Int)+1))
 here:Dz L=true→s≠0∨n≠0
 ne:s≠0→s≠n
 wk:wk=fA L
theorem AEG{r:Rul}{s:Inn}(h:InnOk r s):2≤r.side∧r.side≤11:=(Ek h.code).side
theorem AAv{s:Inn}{p:Int}{hurt:Bool}(h:((G2 s p hurt).2==0)=true):inR p s.batters.length=true∧s.striker≠0∧s.other≠0∧(p=s.striker∨p=s.other)∧(hurt&&((Fr s.batters s.batters.length).length:Int)==0)=false:=by
 unfold G2 at h
 grind
structure Small(s:Inn):Prop where
 target:s.target≤999999900
 runs:s.runs≤999999900
 wides:s.wides≤999999900
 noballs:s.noballs≤999999900
 byes:s.byes≤999999900
 legbyes:s.legbyes≤999999900
 pens:s.pens≤999999900
 complete:s.complete≤999999900
 ballage:s.ballage≤999999900
 rev1:s.rev1≤999999900
 rev2:s.rev2≤999999900
 bowled:∀j,j<s.bowled.length→atI s.bowled j 0≤999999900
def C5(n:Int):Int:=IntKind.i64.wrap (3-n)
theorem Jp{N:Nat}{n:Int}  : Bm N [.int n]=some [.int (C5 n)]:=by
 rfl
def Ee(m:Mat)(i:Int):Int:=cond (cond (m.follow&&iLe 2 i) (i==2) (i.tmod 2==1)) (C5 m.first) m.first
theorem Sv{N:Nat}{m8 m16:Bool}{m0:ByteArray}{m13:Rows}{m17:List Inn}{i:Int}  : EN N [.str m0,.int m1,.int m2,.int m3,.int m4,.int m5,.int m6,.int m7,.bool m8,.int m9,.int m10,.int m11,.int m12,.rows m13,.int m14,.int m15,.bool m16,.rows (Ap m17),.int m18,.int m19,.int m20,.int m21,.int m22,.int i]=some [.int (Ee (⟨⟨m0,m1,m2,m3,m4,m5,m6,m7,m8,m9,m10,m11,m12,m13⟩,m14,m15,m16,m17,m18,m19,m20,m21,m22⟩:Mat) i)]:=by
 show NE (std (Ou N) N) (xOf _)=_;generalize hres:(some [.int (Ee (⟨⟨m0,m1,m2,m3,m4,m5,m6,m7,m8,m9,m10,m11,m12,m13⟩,m14,m15,m16,m17,m18,m19,m20,m21,m22⟩:Mat) i)]:Option (List PV))=RR;simp only[NE,Tx,lq9,std,xOf,PXb,PXc,PXn,PXm,Nat.reduceAdd,Int.reduceBEq,Jp];trivial
def TA(xs:List Inn)(side:Int):Nat→Int
 |0=>0
 |i+1=>cond ((inn xs i).side==side) (IntKind.i64.wrap (TA xs side i+(inn xs i).runs)) (TA xs side i)
def D0(m:Mat)(side:Int):Int:=TA m.inns side m.inns.length
theorem S6{N:Nat}{m8 m16:Bool}{m0:ByteArray}{m13:Rows}{m17:List Inn}{n:Int}(hN:2097152<N)(hl:m17.length≤1048576):Ci N [.str m0,.int m1,.int m2,.int m3,.int m4,.int m5,.int m6,.int m7,.bool m8,.int m9,.int m10,.int m11,.int m12,.rows m13,.int m14,.int m15,.bool m16,.rows (Ap m17),.int m18,.int m19,.int m20,.int m21,.int m22,.int n]=some [.int (D0 (⟨⟨m0,m1,m2,m3,m4,m5,m6,m7,m8,m9,m10,m11,m12,m13⟩,m14,m15,m16,m17,m18,m19,m20,m21,m22⟩:Mat) n)]:=by
 show NG (std (XY N) N) (xOf _)=_;generalize hres:(some [.int (D0 (⟨⟨m0,m1,m2,m3,m4,m5,m6,m7,m8,m9,m10,m11,m12,m13⟩,m14,m15,m16,m17,m18,m19,m20,m21,m22⟩:Mat) n)]:Option (List PV))=RR;simp only[NG,lq9,std,xOf,PXb,PXi];subst hres;simp only[D0];refine AQ (BC (len:=m17.length) (fun i=>[.int (TA m17 n i),.int (i:Int)]) [.int (TA m17 n m17.length)] ?_ ?_ N (by omega)) rfl
 ·intro self;simp only[PXb,PXc,PXn,AH,Aq]
 intro i self hi;simp only[PXb,PXc,AH,BN (show i≤1099511627776 by omega),Ae hi,AM hi,PXi,TA]
 grind
def KC(m:Mat)(side:Int):Int:=
 cond (iLt (IntKind.i64.wrap ((m.inns.length:Int)+1)) (IntKind.i64.wrap (2*m.rules.innings))) 0 (IntKind.i64.wrap (IntKind.i64.wrap (D0 m (C5 side)-D0 m side)+1))
theorem Y0{N:Nat}{m8 m16:Bool}{m0:ByteArray}{m13:Rows}{m17:List Inn}{n:Int}(hN:2097152<N)(hl:m17.length≤1048576):Iy N [.str m0,.int m1,.int m2,.int m3,.int m4,.int m5,.int m6,.int m7,.bool m8,.int m9,.int m10,.int m11,.int m12,.rows m13,.int m14,.int m15,.bool m16,.rows (Ap m17),.int m18,.int m19,.int m20,.int m21,.int m22,.int n]=some [.int (KC (⟨⟨m0,m1,m2,m3,m4,m5,m6,m7,m8,m9,m10,m11,m12,m13⟩,m14,m15,m16,m17,m18,m19,m20,m21,m22⟩:Mat) n)]:=by
 show MD (std (JW N) N) (xOf _)=_;generalize hres:(some [.int (KC (⟨⟨m0,m1,m2,m3,m4,m5,m6,m7,m8,m9,m10,m11,m12,m13⟩,m14,m15,m16,m17,m18,m19,m20,m21,m22⟩:Mat) n)]:Option (List PV))=RR;simp only[MD,Sl,S9,lq9,std,xOf,PXb,PXc,PXn,PXm,Nat.reduceAdd,Int.reduceBEq,PXi,Jp,S6 hN hl];trivial
def lQ(stage:Int)(xs:List Inn)(i:Nat):Bool := !(((inn xs i).ending==0)==(stage==3&&((i:Int)==IntKind.i64.wrap ((xs.length:Int)-1))))
def eh(m:Mat):Bool := !CE (lQ m.stage m.inns) m.inns.length 0&&(!(m.stage==3)||iLt 0 (m.inns.length:Int))
theorem rH{N:Nat}{m8 m16:Bool}{m0:ByteArray}{m13:Rows}{m17:List Inn}(hN:2097152<N)(hl:m17.length≤1048576):Jw N [.str m0,.int m1,.int m2,.int m3,.int m4,.int m5,.int m6,.int m7,.bool m8,.int m9,.int m10,.int m11,.int m12,.rows m13,.int m14,.int m15,.bool m16,.rows (Ap m17),.int m18,.int m19,.int m20,.int m21,.int m22]=some [.bool (eh (⟨⟨m0,m1,m2,m3,m4,m5,m6,m7,m8,m9,m10,m11,m12,m13⟩,m14,m15,m16,m17,m18,m19,m20,m21,m22⟩:Mat))]:=by
 show NP (std (XD N) N) (xOf _)=_;generalize hres:(some [.bool (eh (⟨⟨m0,m1,m2,m3,m4,m5,m6,m7,m8,m9,m10,m11,m12,m13⟩,m14,m15,m16,m17,m18,m19,m20,m21,m22⟩:Mat))]:Option (List PV))=RR;simp only[NP,lq9,std,xOf,PXb,PXi];subst hres;simp only[eh];refine AQ (Nh (len:=m17.length) (lQ m14 m17) [.bool false] ?_ ?_ N (by omega)) ?_
 ·intro self;simp only[PXb,PXc,PXn,AH,Aq]
 ·intro i self hi;simp only[PXb,PXc,AH,BN (show i≤1099511627776 by omega),Ae hi,AM hi,PXi,lQ]
 cases CE (lQ m14 m17) m17.length 0
 ·rfl
 rfl
def Mh(xs:List Inn):Prop:=∀i,i<xs.length→(inn xs i).Fit
theorem cG{N:Nat}{r8:Bool}{r0:ByteArray}{r13:Rows}(hl:r13.length≤1048576):EK N [.str r0,.int r1,.int r2,.int r3,.int r4,.int r5,.int r6,.int r7,.bool r8,.int r9,.int r10,.int r11,.int r12,.rows r13]=some [.str r0,.int r1,.int r2,.int r3,.int r4,.int r5,.int r6,.int r7,.bool r8,.int r9,.int r10,.int r11,.int r12,.rows r13]:=by
 show Nf (std (P7 N) N) (xOf _)=_;simp only[Nf,N4,lq9,std,xOf,PXb,PXc,PXn,PXm,Nat.reduceAdd,Int.reduceBEq,D4,CA hl (show 24≤4096 by omega)]
theorem qh{xs:List Inn}{i:Nat}(h:i<xs.length):xs.take i++[inn xs i]=xs.take (i+1):=by
 rw[List.take_add_one,PI,zzo h];rfl
theorem rA{N:Nat}{m8 m16:Bool}{m0:ByteArray}{m13:Rows}{m17:List Inn}(hf:Mh m17)(hN:2097152<N)(hl:m17.length≤1000000)(h13:m13.length≤1048576):J4 N [.str m0,.int m1,.int m2,.int m3,.int m4,.int m5,.int m6,.int m7,.bool m8,.int m9,.int m10,.int m11,.int m12,.rows m13,.int m14,.int m15,.bool m16,.rows (Ap m17),.int m18,.int m19,.int m20,.int m21,.int m22]=some [.str m0,.int m1,.int m2,.int m3,.int m4,.int m5,.int m6,.int m7,.bool m8,.int m9,.int m10,.int m11,.int m12,.rows m13,.int m14,.int m15,.bool m16,.rows (Ap m17),.int m18,.int m19,.int m20,.int m21,.int m22]:=by
 show NY (std (KX N) N) (xOf _)=_;simp only[NY,Tt,I5,lq9,std,xOf,PXb,cG h13,PXi];refine AQ (BC (len:=m17.length) (fun i=>[.rows (Ap (m17.take i)),.int (i:Int)]) [.rows (Ap m17)] ?_ ?_ N (by omega)) rfl
 ·intro self;simp only[PXb,PXc,PXn,AH,Aq,List.take_length]
 intro i self hi;have h2:(m17.take (i+1)).length≤1048576:=by grind
 have h3:iSm ((m17.take (i+1)).length:Int) 304=true:=Dk (by omega) (by omega);simp only[PXb,PXc,AH,BN (show i≤1099511627776 by omega),Ae hi,AM hi,PXi,I5,C2 (hf i hi),PXr,Inn.eta,h3,qh hi,Nat.reduceAdd];rfl
def AFW:Rul:=⟨⟨#[]⟩,0,0,0,0,0,0,0,false,0,0,0,0,[]⟩
def kD:Mat:=⟨AFW,0,0,false,[],0,0,0,0,0⟩
def AO(r:Rul):Mat×Int:=cond (!(B8 r==0)) (kD,B8 r) (⟨r,1,0,false,[],0,0,0,0,0⟩,0)
theorem wI{N:Nat}{r8:Bool}{r0:ByteArray}{r13:Rows}(hN:2097152<N)(hs:r0.size≤1048576)(h13:r13.length≤1048576):Rr N [.str r0,.int r1,.int r2,.int r3,.int r4,.int r5,.int r6,.int r7,.bool r8,.int r9,.int r10,.int r11,.int r12,.rows r13]=some (Ru (AO (⟨r0,r1,r2,r3,r4,r5,r6,r7,r8,r9,r10,r11,r12,r13⟩:Rul))):=by
 show Ri (std (NZ N) N) (xOf _)=_;generalize hres:(some (Ru (AO (⟨r0,r1,r2,r3,r4,r5,r6,r7,r8,r9,r10,r11,r12,r13⟩:Rul))):Option (List PV))=RR;simp only[Ri,WY,WW,lq9,std,xOf,PXb,PXc,PXn,PXm,Nat.reduceAdd,Int.reduceBEq,Dl hN hs,cG h13];subst hres;simp only[AO];cases B8 (⟨r0,r1,r2,r3,r4,r5,r6,r7,r8,r9,r10,r11,r12,r13⟩:Rul)==0<;>rfl
def kJ(m:Mat):Bool:=(iLt m.pen1 0||iLt 1000000 m.pen1)||(iLt m.pen2 0||iLt 1000000 m.pen2)
def db(m:Mat)(i:Nat):Bool := !Ll m.rules (inn m.inns i) || !((inn m.inns i).side==Ee m (i:Int))
def rX(m:Mat):Bool:=
  let n:Int:=m.inns.length
  let most:=IntKind.i64.wrap (2*m.rules.innings)
  B8 m.rules==0&&(!(iLt m.stage 1)&&(!(iLt 5 m.stage)&&(!kJ m&&(!(iLt m.first 0||iLt 2 m.first||iLt most n)&&(!(m.first==0&&(iLt 0 n||(!(m.stage==1) && !(m.stage==5)))) &&
    (!(m.stage==1 && !(m.first==0))&&(!(m.stage==2&&n==most)&&(!(m.stage==4&&(!(m.rules.innings==2) || !(n==2))) && !(m.follow&&(!(m.rules.innings==2)||iLt n 2))))))))))
def Ib(m:Mat):Bool:=rX m&&(!CE (db m) m.inns.length 0&&eh m)
set_option maxHeartbeats 4000000 in
theorem cN{N:Nat}{m8 m16:Bool}{m0:ByteArray}{m13:Rows}{m17:List Inn}(hf:Mh m17)(hN:2097152<N)(hl:m17.length≤1000000)(hs:m0.size≤1048576):EL N [.str m0,.int m1,.int m2,.int m3,.int m4,.int m5,.int m6,.int m7,.bool m8,.int m9,.int m10,.int m11,.int m12,.rows m13,.int m14,.int m15,.bool m16,.rows (Ap m17),.int m18,.int m19,.int m20,.int m21,.int m22]=some [.bool (Ib (⟨⟨m0,m1,m2,m3,m4,m5,m6,m7,m8,m9,m10,m11,m12,m13⟩,m14,m15,m16,m17,m18,m19,m20,m21,m22⟩:Mat))]:=by
 show NX (std (FD N) N) (xOf _)=_;generalize hres:(some [.bool (Ib (⟨⟨m0,m1,m2,m3,m4,m5,m6,m7,m8,m9,m10,m11,m12,m13⟩,m14,m15,m16,m17,m18,m19,m20,m21,m22⟩:Mat))]:Option (List PV))=RR;simp only[NX,US,I6,KZ,KW,lq9,std,xOf,PXb,Dl hN hs,PXi];subst hres;simp only[Ib,rX];cases hc:B8 (⟨⟨m0,m1,m2,m3,m4,m5,m6,m7,m8,m9,m10,m11,m12,m13⟩,m14,m15,m16,m17,m18,m19,m20,m21,m22⟩:Mat).rules==0<;>(try rfl);cases h1:iLt m14 1<;>(try rfl);cases h5:iLt 5 m14<;>(try rfl);simp only[PXb];refine AQ (Nh (len:=2) (fun i=>iLt (cond ((i:Int)==1) m19 m18) 0||iLt 1000000 (cond ((i:Int)==1) m19 m18)) [.bool false] ?_ ?_ N (by omega)) ?_
 ·intro self;rfl
 ·intro i self hi;simp only[PXb,BN (show i≤1099511627776 by omega),show iLt (i:Int) 2=true from Ae (len:=2) hi,show iIn (i:Int) 2=true from AM (len:=2) hi]
 have hp:CE (fun i=>iLt (cond ((i:Int)==1) m19 m18) 0||iLt 1000000 (cond ((i:Int)==1) m19 m18)) 2 0=kJ (⟨⟨m0,m1,m2,m3,m4,m5,m6,m7,m8,m9,m10,m11,m12,m13⟩,m14,m15,m16,m17,m18,m19,m20,m21,m22⟩:Mat):=by
  simp only[CZ,K7,Bool.or_false];rfl
 rw[hp];cases kJ (⟨⟨m0,m1,m2,m3,m4,m5,m6,m7,m8,m9,m10,m11,m12,m13⟩,m14,m15,m16,m17,m18,m19,m20,m21,m22⟩:Mat)
 case true=>rfl
 simp only[PXb,SX,Int.reduceBEq];cases iLt m15 0<;>try rfl
 cases iLt 2 m15<;>try rfl
 cases iLt (IntKind.i64.wrap (2*m2)) (m17.length:Int)<;>try rfl
 cases(m15==0&&(iLt 0 (m17.length:Int)||(!(m14==1) && !(m14==5))))<;>try rfl
 cases(m14==1 && !(m15==0))<;>try rfl
 cases(m14==2&&(m17.length:Int)==IntKind.i64.wrap (2*m2))<;>try rfl
 cases(m14==4&&(!(m2==2) || !((m17.length:Int)==2)))<;>try rfl
 cases(m16&&(!(m2==2)||iLt (m17.length:Int) 2))<;>try rfl
 simp only[PXb];refine AQ (Nh (len:=m17.length) (db (⟨⟨m0,m1,m2,m3,m4,m5,m6,m7,m8,m9,m10,m11,m12,m13⟩,m14,m15,m16,m17,m18,m19,m20,m21,m22⟩:Mat)) [.bool false] ?_ ?_ N (by omega)) ?_
 ·intro self;simp only[PXb,PXc,PXn,AH,Aq]
 ·intro i self hi;simp only[PXb,PXc,PXn,PXm,Nat.reduceAdd,Int.reduceBEq,BN (show i≤1099511627776 by omega),Ae hi,AM hi,PXi,I6,KZ,W7 (hf i hi) hN hs,Sv,db]
  grind
 cases CE (db (⟨⟨m0,m1,m2,m3,m4,m5,m6,m7,m8,m9,m10,m11,m12,m13⟩,m14,m15,m16,m17,m18,m19,m20,m21,m22⟩:Mat)) m17.length 0
 case true=>rfl
 simp only[PXb,PXc,PXn,PXm,Nat.reduceAdd,Int.reduceBEq,KW,rH hN (show m17.length≤1048576 by omega)]
def lnx(xs:List Inn):Nat:=(IntKind.i64.wrap ((xs.length:Int)-1)).toNat
def AZ(m:Mat):Inn:=inn m.inns (lnx m.inns)
theorem YO{n:Nat}(h:((n:Int)==0)=false)(hl:n≤1000000):iIn (IntKind.i64.wrap ((n:Int)-1)) (n:Int)=true:=by
 rw[beq_eq_false_iff_ne]at h;rw[A0 (by omega) (by omega)];simp only[iIn,decide_eq_true_eq];omega
theorem eP{xs:List Inn}(h:((xs.length:Int)==0)=false)(hl:xs.length≤1000000):lnx xs<xs.length:=by
 rw[beq_eq_false_iff_ne]at h;unfold lnx;rw[A0 (by omega) (by omega)];omega
def kt(r:Rul):Int:=cond (r.overs==0) 5 6
theorem K1{N:Nat}{r8:Bool}{r0:ByteArray}{r13:Rows}  : Cb N [.str r0,.int r1,.int r2,.int r3,.int r4,.int r5,.int r6,.int r7,.bool r8,.int r9,.int r10,.int r11,.int r12,.rows r13]=some [.int (kt (⟨r0,r1,r2,r3,r4,r5,r6,r7,r8,r9,r10,r11,r12,r13⟩:Rul))]:=by
 show G7 (std (PJ N) N) (xOf _)=_;simp only[G7,lq9,std,xOf,PXb,PXc,PXn,PXm,Nat.reduceAdd,Int.reduceBEq,kt]
def ACg(x:Int×Int×Int):List PV:=[.int x.1,.int x.2.1,.int x.2.2]
def Zw(m:Mat):Int×Int×Int:=
  let n:Int:=m.inns.length
  let most:=IntKind.i64.wrap (2*m.rules.innings)
  let x:=AZ m
  cond (!Ib m||n==0) (0,0,0) (cond (x.ending==5) (kt m.rules,0,0) (cond (x.ending==0) (0,0,0)
    (cond (n==most&&iLe x.target x.runs) (2,x.side,IntKind.i64.wrap (IntKind.i64.wrap (m.rules.side-1)-x.wickets)) (cond (n==most&&x.runs==IntKind.i64.wrap (x.target-1)) (4,0,0)
      (cond (n==most) (1,C5 x.side,IntKind.i64.wrap (IntKind.i64.wrap (x.target-1)-x.runs))
        (cond (n==3&&iLt (D0 m x.side) (D0 m (C5 x.side))) (3,C5 x.side,IntKind.i64.wrap (D0 m (C5 x.side)-D0 m x.side)) (0,0,0)))))))
set_option maxHeartbeats 4000000 in
theorem lW{N:Nat}{m8 m16:Bool}{m0:ByteArray}{m13:Rows}{m17:List Inn}(hf:Mh m17)(hN:2097152<N)(hl:m17.length≤1000000)(hs:m0.size≤1048576):HN N [.str m0,.int m1,.int m2,.int m3,.int m4,.int m5,.int m6,.int m7,.bool m8,.int m9,.int m10,.int m11,.int m12,.rows m13,.int m14,.int m15,.bool m16,.rows (Ap m17),.int m18,.int m19,.int m20,.int m21,.int m22]=some (ACg (Zw (⟨⟨m0,m1,m2,m3,m4,m5,m6,m7,m8,m9,m10,m11,m12,m13⟩,m14,m15,m16,m17,m18,m19,m20,m21,m22⟩:Mat))):=by
 show KR (std (EI N) N) (xOf _)=_;generalize hres:(some (ACg (Zw (⟨⟨m0,m1,m2,m3,m4,m5,m6,m7,m8,m9,m10,m11,m12,m13⟩,m14,m15,m16,m17,m18,m19,m20,m21,m22⟩:Mat))):Option (List PV))=RR;simp only[KR,SA,R0,SC,Nv,lq9,std,xOf,PXb,PXi,cN hf hN hl hs,Jp,K1,S6 hN (show m17.length≤1048576 by omega)];subst hres;simp only[Zw,AZ,lnx];cases hv:Ib (⟨⟨m0,m1,m2,m3,m4,m5,m6,m7,m8,m9,m10,m11,m12,m13⟩,m14,m15,m16,m17,m18,m19,m20,m21,m22⟩:Mat)
 case false=>rfl
 cases h0:(m17.length:Int)==0
 case true=>rfl
 simp only[PXb,YO h0 hl];generalize inn m17 (IntKind.i64.wrap ((m17.length:Int)-1)).toNat=x;cases x.ending==5
 case true=>rfl
 cases x.ending==0
 case true=>rfl
 cases(m17.length:Int)==IntKind.i64.wrap (2*m2)<;>cases iLe x.target x.runs<;>cases x.runs==IntKind.i64.wrap (x.target-1)<;>try rfl
 all_goals (cases(m17.length:Int)==3<;>try rfl)
 all_goals (simp only[PXb];cases iLt (D0 (⟨⟨m0,m1,m2,m3,m4,m5,m6,m7,m8,m9,m10,m11,m12,m13⟩,m14,m15,m16,m17,m18,m19,m20,m21,m22⟩:Mat) x.side) (D0 (⟨⟨m0,m1,m2,m3,m4,m5,m6,m7,m8,m9,m10,m11,m12,m13⟩,m14,m15,m16,m17,m18,m19,m20,m21,m22⟩:Mat) (C5 x.side))<;>rfl)
theorem vD:∀(n k:Nat) (f:Nat→Nat),(∀i,i<k→1≤f i∧f i≤n)→(∀i j,i<j→j<k→f i≠f j)→k≤n
 |0,k,f,h,_=>by
  grind
 |n+1,0,f,_,_=>by omega
 |n+1,k+1,f,h,hi=>by
  by_cases he:∃j,j<k+1∧f j=n+1
  ·obtain⟨j,hj,hfj⟩:=he;have:=vD n k (fun i=>if i=j then f k else f i) (fun i hik=>by
    grind) (fun a b hab hb=>by
    grind)
   omega
  have:=vD n (k+1) f (fun i hik=>by
   grind) hi
  omega
theorem ry{L:Rows}{n:Int}(h:Sh L n=true)(hn:0≤n):(L.length:Int)≤n:=by
 unfold Sh at h;rw[Bool.not_eq_true',L7]at h;have hb:∀i,i<L.length→1≤atI L i 0∧atI L i 0≤n:=fun i hi=>by
  have:=h i (by omega) (by omega);unfold Uf at this;rw[Bool.or_eq_false_iff,Bool.not_eq_false',Yl]at this;omega
 have:=vD n.toNat L.length (fun i=>(atI L i 0).toNat) (fun i hi=>by grind) (fun i j hij hj=>by
  show(atI L i 0).toNat≠(atI L j 0).toNat;have h1:=hb i (by omega);have h2:=hb j hj;have h3:=h j (by omega) (by omega);unfold Uf at h3;rw[Bool.or_eq_false_iff]at h3;have h4:=L7.1 h3.2 i (by omega) (by omega)
  grind)
 omega
theorem Tr{r:Rul}{s:Inn}(h:Ll r s=true):s.bowlers.length≤11∧s.before.length≤11∧s.Fit:=by
 have ok:=LX.1 h;have hs:=AEG ok;have h1:=ry ok.dw (by omega);have h2:=ry ok.df (by omega);have h3:=ok.lb;have h4:=ok.ld;have h5:=ok.lz;exact⟨by omega,by omega,by omega,by omega,by omega,by omega,by omega⟩
def aX(m:Mat)(e:Ev):Mat×Int:=
  let sd:=Ee m (m.inns.length:Int)
  let b:=DX m.rules sd (KC m sd) (cond (sd==2) m.pen2 m.pen1)
  let t:=A7 m.rules b.1 e
  cond (!(b.2==0)) (m,1) (cond (!(t.2==0)) (m,t.2)
    ({ m with stage:=3,inns:=m.inns++[t.1],pen1:=cond (sd==1) 0 m.pen1,pen2:=cond (sd==2) 0 m.pen2 },0))
def PT(xs:List Inn)(sd:Int):Nat→Option Nat
 |0=>none
 |k+1=>cond ((inn xs k).side==sd) (some k) (PT xs sd k)
def Mn(m:Mat)(sd:Int):Mat:=match PT m.inns sd m.inns.length with
 |some k=>{ m with inns:=m.inns.set k (WM (inn m.inns k)) }
 |none=>{ m with pen1:=cond (sd==1) (IntKind.i64.wrap (m.pen1+5)) m.pen1,pen2:=cond (sd==2) (IntKind.i64.wrap (m.pen2+5)) m.pen2 }
def FC(m:Mat)(e:Ev):Mat×Int:=
 let t:=A7 m.rules (AZ m) e
 cond (!(t.2==0)) (m,t.2) (cond (e.kind==13 && !(e.side==t.1.side)) (Mn { m with inns:=m.inns.set (lnx m.inns) t.1 } e.side) { m with inns:=m.inns.set (lnx m.inns) t.1 },0)
def mL(m:Mat):Mat:={ m with inns:=cond (m.stage==3) (m.inns.set (lnx m.inns) { AZ m with ending:=5 }) m.inns,stage:=5,win:=kt m.rules,wside:=0,margin:=0 }
def Ky(m:Mat)(e:Ev):Mat×Int:=
  cond (e.kind==1) (cond (!(m.stage==1)) (m,1) ({ m with first:=cond e.yes e.side (C5 e.side),stage:=2 },0))
    (cond (e.kind==2) (cond (!(m.stage==2)) (m,1) (aX m e))
      (cond (e.kind==12) (cond (!(m.stage==4)) (m,1) (cond (!(e.side==m.first)) (m,2) ({ m with follow:=e.yes,stage:=2 },0)))
        (cond (e.kind==16) (mL m,0) (cond (!(m.stage==3)) (m,1) (FC m e)))))
def Uc(m:Mat):Mat:=
  let n:Int:=m.inns.length
  let sd:=(AZ m).side
  let o:=Zw { m with stage:=5 }
  cond (n==IntKind.i64.wrap (2*m.rules.innings)||(n==3&&iLt (D0 m sd) (D0 m (C5 sd)))) { m with stage:=5,win:=o.1,wside:=o.2.1,margin:=o.2.2 }
    (cond (n==2&&iLt 0 m.rules.followon&&iLe m.rules.followon (IntKind.i64.wrap (D0 m m.first-D0 m (C5 m.first)))) { m with stage:=4 } { m with stage:=2 })
def C4(m:Mat):Mat:=cond (m.stage==3 && !((AZ m).ending==0)) (Uc m) m
def EW(m:Mat)(e:Ev):Mat×Int:=
 cond (!Ib m || !(evS e==0)) (m,1) (cond (m.stage==5) (m,26) (cond (!((Ky m e).2==0)) (m,(Ky m e).2) (C4 (Ky m e).1,0)))
theorem ADa{X:Option (List PV)}{r:List PV}{k:List PV→Option (List PV)}{g:Option (List PV)}(h:X=some r)(hk:k r=g):X.bind k=g:=by simp_all
structure MatOk(m:Mat):Prop where
 code:B8 m.rules=0
 len:m.inns.length≤4
 innv:∀i,i<m.inns.length→Ll m.rules (inn m.inns i)=true∧(inn m.inns i).side=Ee m (i:Int)
 begun:(m.stage==3)=true→((m.inns.length:Int)==0)=false
 toss:(m.stage==2)=true→m.first=1∨m.first=2
 room:(m.stage==2)=true→(m.inns.length:Int)<2*m.rules.innings
 most:IntKind.i64.wrap (2*m.rules.innings)=2*m.rules.innings∧(m.inns.length:Int)≤2*m.rules.innings
theorem ec{m:Mat}(h:Ib m=true):MatOk m:=by
 unfold Ib rX at h;simp only[zzk,Bool.not_eq_true']at h;obtain⟨⟨h1,h2,h3,h4,h5,h6,h7,h8,h9,h10⟩,h11,h12⟩:=h;have hc:=beq_iff_eq.1 h1;have rk:=(Ek hc).innings;have e2:IntKind.i64.wrap (2*m.rules.innings)=2*m.rules.innings:=A0 (by omega) (by omega);rw[e2]at h5 h8;rw[Bool.or_eq_false_iff,Bool.or_eq_false_iff]at h5;have hn:=h5.2;have hf1:=h5.1.1;have hf2:=h5.1.2;simp only[iLt,decide_eq_false_iff_not]at hn hf1 hf2;refine⟨hc,by omega,fun i hi=>?_,fun hs=>?_,fun hs=>?_,fun hs=>?_,e2,by omega⟩
 ·have:=L7.1 h11 i (by omega) (by omega);unfold db at this
  simp_all
 ·unfold eh at h12;rw[hs,zzk]at h12;have:=h12.2;simp only[iLt,Bool.not_true,Bool.false_or,decide_eq_true_eq]at this
  grind
 ·rw[beq_iff_eq.1 hs]at h6
  grind
 grind
theorem ACP{m:Mat}(h:m.first=1∨m.first=2)(i:Int):Ee m i=1∨Ee m i=2:=by
 unfold Ee;cases cond (m.follow&&iLe 2 i) (i==2) (i.tmod 2==1)
 ·exact h
 rcases h with h|h<;>rw[h]<;>decide
theorem qF{m:Mat}(h:MatOk m):Mh m.inns:=fun i hi=>(Tr (h.innv i hi).1).2.2
theorem aZ{F:(List AW→Option (List PV))→List PV→Option (List PV)}{len:Nat}(enc:Nat→List AW)(ans:Nat→Option (List PV))
    (h0:∀self,F self ((enc len).map Leaf.pv)=some [.int 1]) (h1:∀i self,i<len→F self ((enc i).map Leaf.pv)=match ans i with|some r=>some (.int 0::r)|none=>self (enc (i+1))) :
    ∀(k i n:Nat),i+k=len→k<n→CP F n ((enc i).map Leaf.pv)=some (Wq (Be ans k i))
  |0,i,n,hk,hn=>by
    obtain⟨n,rfl⟩:∃m,n=m+1:=⟨n-1,by omega⟩;obtain rfl:i=len:=by omega
    exact h0 _
  |k+1,i,n,hk,hn=>by
    obtain⟨n,rfl⟩:∃m,n=m+1:=⟨n-1,by omega⟩;show F _ _=_;rw[h1 i _ (by omega)];simp only[Be];cases ans i with
    |some r=>rfl
    |none=>exact aZ enc ans h0 h1 k (i+1) n (by omega) (by omega)
theorem xZ(ys:List Inn)(sd:Int)(g:Nat→List PV)(n:Nat):∀k,k≤n→Be (fun j=>cond ((inn ys (n-1-j)).side==sd) (some (g (n-1-j))) none) k (n-k)=(PT ys sd k).map g
 |0,_=>rfl
 |k+1,h=>by
  have ih:=xZ ys sd g n k (by omega);have e:n-1-(n-(k+1))=k:=by omega
  have e2:n-(k+1)+1=n-k:=by omega
  simp only[Be,PT,e,e2,ih]
  grind
theorem fW(xs:List Inn)(k:Nat)(s:Inn)(i:Nat)(hi:i<xs.length):inn (xs.set k s) i=(if k=i then s else inn xs i):=by
 rw[PI,PI,List.getElem?_set]
 grind
theorem U6{xs:List Inn}{s:Inn}(k:Nat)(h:Mh xs)(hs:s.Fit):Mh (xs.set k s):=fun i hi=>by
 rw[List.length_set]at hi;rw[fW xs k s i hi]
 by_cases e:k=i
 ·simp_all
 rw[if_neg e];exact h i hi
theorem AAs{e:Ev}(h:(evS e==0)=true)(hk:(e.kind==13)=true):e.side=1∨e.side=2:=by
 have h0:=o6 h;rw[beq_iff_eq]at hk;unfold evS at h;rw[h0]at h;cases h1:sU e
 ·cases h2:im e
  ·unfold im at h2;rw[Bool.or_eq_false_iff]at h2;have h3:=h2.1;rw[hk,show uS 13=true from rfl,Bool.and_true]at h3;simp only[btw,iLe,Bool.not_eq_false',zzk,decide_eq_true_eq]at h3;omega
  simp_all
 simp_all
theorem ADK(xs:List Inn)(s:Inn)(i:Nat)(hi:i<xs.length+1):inn (xs++[s]) i=(if i<xs.length then inn xs i else s):=by
 rw[PI,PI]
 grind
theorem ABj{xs:List Inn}{s:Inn}(h:Mh xs)(hs:s.Fit):Mh (xs++[s]):=fun i hi=>by
 rw[List.length_append]at hi;rw[ADK xs s i hi]
 by_cases e:i<xs.length
 ·rw[if_pos e];exact h i e
 grind
theorem nC(r:Rul)(a b c:Int)(e:Ev):(A7 r (DX r a b c).1 e).1.Fit:=by
 obtain⟨f,h1,h2⟩:=UB r a b c;exact Vk (W6 r _ e) f (by simp_all)
structure ActOk(m:Mat)(x:Mat×Int):Prop where
 rules:x.1.rules=m.rules
 fit:Mh x.1.inns
 len:x.1.inns.length≤5
 some':(x.2==0)=true→(x.1.stage==3)=true→((x.1.inns.length:Int)==0)=false
theorem A_c{m:Mat}(b:Bool)(x y:Mat×Int)(hx:ActOk m x)(hy:ActOk m y):ActOk m (cond b x y):=by grind
theorem vB{m:Mat}(sd:Int)(hf:Mh m.inns):(Mn m sd).rules=m.rules∧Mh (Mn m sd).inns∧(Mn m sd).inns.length=m.inns.length∧(Mn m sd).stage=m.stage:=by
 unfold Mn;cases h:PT m.inns sd m.inns.length with
 |none=>trivial
 |some k=>
  have hk:k<m.inns.length:=by
   have:∀n,PT m.inns sd n=some k→k<n:=by
    intro n
    induction n with
    |zero=>intro h;cases h
    |succ n ih=>
     intro h;unfold PT at h
     grind
   simp_all
  exact⟨rfl,U6 k hf (ADt (hf k hk)),List.length_set,rfl⟩
theorem zo{m:Mat}(ok:MatOk m)(e:Ev):ActOk m (Ky m e):=by
 have hf:=qF ok;have hl:=ok.len;have self:∀n:Int,(n==0)=false→ActOk m (m,n):=fun n hn=>⟨rfl,hf,by grind,fun h=>by simp_all⟩
 unfold Ky;refine A_c _ _ _ (A_c _ _ _ (self 1 rfl) ⟨rfl,hf,by grind,fun _ h=>by cases h⟩) (A_c _ _ _ ?_ (A_c _ _ _ ?_ (A_c _ _ _ ?_ ?_)))
 ·refine A_c _ _ _ (self 1 rfl) ?_;unfold aX;refine A_c _ _ _ (self 1 rfl) ?_;cases hq:(A7 m.rules (DX m.rules (Ee m (m.inns.length:Int)) (KC m (Ee m (m.inns.length:Int))) (cond (Ee m (m.inns.length:Int)==2) m.pen2 m.pen1)).1 e).2==0
  ·simp_all
  simp only[Bool.not_true,cond_false];exact⟨rfl,ABj hf (nC _ _ _ _ e),by simp;omega,fun _ _=>by
   grind⟩
 ·exact A_c _ _ _ (self 1 rfl) (A_c _ _ _ (self 2 rfl) ⟨rfl,hf,by grind,fun _ h=>by cases h⟩)
 ·unfold mL;cases h3:m.stage==3
  ·exact⟨rfl,hf,by grind,fun _ h=>by cases h⟩
  have h0:=ok.begun h3;have fl:=hf (lnx m.inns) (eP h0 (by omega));exact⟨rfl,U6 _ hf ⟨fl.bt,fl.bw,fl.bf,fl.bd,fl.sb⟩,by grind,fun _ h=>by cases h⟩
 cases h3:m.stage==3
 ·simp_all
 have h0:=ok.begun h3;have lv:=Tr (ok.innv (lnx m.inns) (eP h0 (by omega))).1;have h1:=lv.1;have h2:=lv.2.1;have ft:=Vk (W6 m.rules (AZ m) e) lv.2.2 (show(inn m.inns (lnx m.inns)).before.length+(inn m.inns (lnx m.inns)).bowlers.length≤1048575 by omega);simp only[Bool.not_true,cond_false,FC];cases hq:(A7 m.rules (AZ m) e).2==0
 ·simp_all
 have fs:=U6 (lnx m.inns) hf ft;have ln:(m.inns.set (lnx m.inns) (A7 m.rules (AZ m) e).1).length=m.inns.length:=List.length_set;simp only[Bool.not_true,cond_false];cases(e.kind==13 && !(e.side==(A7 m.rules (AZ m) e).1.side))
 ·exact⟨rfl,fs,by grind,fun _ _=>by
   simp_all⟩
 obtain⟨a1,a2,a3,a4⟩:=vB (m:={ m with inns:=m.inns.set (lnx m.inns) (A7 m.rules (AZ m) e).1 }) e.side fs;exact⟨a1,a2,by grind,fun _ _=>by
  simp_all⟩
set_option maxHeartbeats 8000000 in
theorem tY{N:Nat}{m8 m16:Bool}{m0:ByteArray}{m13:Rows}{m17:List Inn}{e0 e1 e2 e3 e5 e6 e7 e8 e9 e10 e11 e13 e14 e15 e16 e18:Int}{e4 e12 e17:Bool}(hN:2097152<N)(hf:Mh m17)(hl:m17.length≤1000000)(hs:m0.size≤1048576)(h13:m13.length≤1048576):P5 N [.str m0,.int m1,.int m2,.int m3,.int m4,.int m5,.int m6,.int m7,.bool m8,.int m9,.int m10,.int m11,.int m12,.rows m13,.int m14,.int m15,.bool m16,.rows (Ap m17),.int m18,.int m19,.int m20,.int m21,.int m22,.int e0,.int e1,.int e2,.int e3,.bool e4,.int e5,.int e6,.int e7,.int e8,.int e9,.int e10,.int e11,.bool e12,.int e13,.int e14,.int e15,.int e16,.bool e17,.int e18]=some (Ru (EW (⟨⟨m0,m1,m2,m3,m4,m5,m6,m7,m8,m9,m10,m11,m12,m13⟩,m14,m15,m16,m17,m18,m19,m20,m21,m22⟩:Mat) (⟨e0,e1,e2,e3,e4,e5,e6,⟨e7,e8,e9,e10,e11,e12,e13,e14,e15,e16,e17,e18⟩⟩:Ev))):=by
 show PR (std (Bg N) N) (xOf _)=_;generalize hres:(some (Ru (EW (⟨⟨m0,m1,m2,m3,m4,m5,m6,m7,m8,m9,m10,m11,m12,m13⟩,m14,m15,m16,m17,m18,m19,m20,m21,m22⟩:Mat) (⟨e0,e1,e2,e3,e4,e5,e6,⟨e7,e8,e9,e10,e11,e12,e13,e14,e15,e16,e17,e18⟩⟩:Ev))):Option (List PV))=RR;simp only[PR,V5,Uw,VA,GN,GP,LQ,Jm,FV,Fv,D1,ES,Ig,lq9,std,xOf,PXb,cN hf hN hl hs,bC hN,rA hf hN hl h13];subst hres;simp only[EW];cases hv:Ib (⟨⟨m0,m1,m2,m3,m4,m5,m6,m7,m8,m9,m10,m11,m12,m13⟩,m14,m15,m16,m17,m18,m19,m20,m21,m22⟩:Mat)
 case false=>rfl
 cases he:evS (⟨e0,e1,e2,e3,e4,e5,e6,⟨e7,e8,e9,e10,e11,e12,e13,e14,e15,e16,e17,e18⟩⟩:Ev)==0
 case false=>simp only[PXb,he];rfl
 simp only[PXb,he];cases h5:m14==5
 case true=>rfl
 simp only[PXb];have ok:=ec hv;refine ADa (r:=.int (Ky (⟨⟨m0,m1,m2,m3,m4,m5,m6,m7,m8,m9,m10,m11,m12,m13⟩,m14,m15,m16,m17,m18,m19,m20,m21,m22⟩:Mat) (⟨e0,e1,e2,e3,e4,e5,e6,⟨e7,e8,e9,e10,e11,e12,e13,e14,e15,e16,e17,e18⟩⟩:Ev)).2::(Ky (⟨⟨m0,m1,m2,m3,m4,m5,m6,m7,m8,m9,m10,m11,m12,m13⟩,m14,m15,m16,m17,m18,m19,m20,m21,m22⟩:Mat) (⟨e0,e1,e2,e3,e4,e5,e6,⟨e7,e8,e9,e10,e11,e12,e13,e14,e15,e16,e17,e18⟩⟩:Ev)).1.ls) ?_ ?_
 ·unfold Ky;cases hk1:e0==1
  case true=>
   simp only[PXb,GP,Jp];cases m14==1<;>cases e4<;>rfl
  cases hk2:e0==2
  case true=>
   simp only[PXb];cases hs2:m14==2
   case false=>rfl
   have hl2:m17.length≤1048576:=by omega
   have h304:iSm ((m17.length+1:Nat):Int) 304=true:=Dk (by omega) (by omega);have fb:=fun a b c=>(UB (⟨⟨m0,m1,m2,m3,m4,m5,m6,m7,m8,m9,m10,m11,m12,m13⟩,m14,m15,m16,m17,m18,m19,m20,m21,m22⟩:Mat).rules a b c).1
   have wb:∀a b c,(DX (⟨⟨m0,m1,m2,m3,m4,m5,m6,m7,m8,m9,m10,m11,m12,m13⟩,m14,m15,m16,m17,m18,m19,m20,m21,m22⟩:Mat).rules a b c).1.before.length+(DX (⟨⟨m0,m1,m2,m3,m4,m5,m6,m7,m8,m9,m10,m11,m12,m13⟩,m14,m15,m16,m17,m18,m19,m20,m21,m22⟩:Mat).rules a b c).1.bowlers.length≤1000000:=fun a b c=>by
    rw[(UB (⟨⟨m0,m1,m2,m3,m4,m5,m6,m7,m8,m9,m10,m11,m12,m13⟩,m14,m15,m16,m17,m18,m19,m20,m21,m22⟩:Mat).rules a b c).2.1,(UB (⟨⟨m0,m1,m2,m3,m4,m5,m6,m7,m8,m9,m10,m11,m12,m13⟩,m14,m15,m16,m17,m18,m19,m20,m21,m22⟩:Mat).rules a b c).2.2];trivial
   rcases ACP (m:=(⟨⟨m0,m1,m2,m3,m4,m5,m6,m7,m8,m9,m10,m11,m12,m13⟩,m14,m15,m16,m17,m18,m19,m20,m21,m22⟩:Mat)) (ok.toss hs2) (m17.length:Int)with ho|ho
   ·simp only[PXb,PXc,SX,ur,Nat.reduceAdd,Int.reduceBEq,PXi,PXr,Inn.eta,Bo,List.length_append,List.length_cons,List.length_nil,h304,aX,GN,Fv,FV,D1,Sv,Y0 hN hl2,Wb hN hs,RE (fb _ _ _) (wb _ _ _) hN hs h13,ho,wr1,wr2,y7,yq];cases(DX (⟨⟨m0,m1,m2,m3,m4,m5,m6,m7,m8,m9,m10,m11,m12,m13⟩,m14,m15,m16,m17,m18,m19,m20,m21,m22⟩:Mat).rules 1 (KC (⟨⟨m0,m1,m2,m3,m4,m5,m6,m7,m8,m9,m10,m11,m12,m13⟩,m14,m15,m16,m17,m18,m19,m20,m21,m22⟩:Mat) 1) m18).2==0<;>try rfl
    cases(A7 (⟨⟨m0,m1,m2,m3,m4,m5,m6,m7,m8,m9,m10,m11,m12,m13⟩,m14,m15,m16,m17,m18,m19,m20,m21,m22⟩:Mat).rules (DX (⟨⟨m0,m1,m2,m3,m4,m5,m6,m7,m8,m9,m10,m11,m12,m13⟩,m14,m15,m16,m17,m18,m19,m20,m21,m22⟩:Mat).rules 1 (KC (⟨⟨m0,m1,m2,m3,m4,m5,m6,m7,m8,m9,m10,m11,m12,m13⟩,m14,m15,m16,m17,m18,m19,m20,m21,m22⟩:Mat) 1) m18).1 (⟨e0,e1,e2,e3,e4,e5,e6,⟨e7,e8,e9,e10,e11,e12,e13,e14,e15,e16,e17,e18⟩⟩:Ev)).2==0<;>rfl
   simp only[PXb,PXc,SX,ur,Nat.reduceAdd,Int.reduceBEq,PXi,PXr,Inn.eta,Bo,List.length_append,List.length_cons,List.length_nil,h304,aX,GN,Fv,FV,D1,Sv,Y0 hN hl2,Wb hN hs,RE (fb _ _ _) (wb _ _ _) hN hs h13,ho,wr1,wr2,y7,yq];cases(DX (⟨⟨m0,m1,m2,m3,m4,m5,m6,m7,m8,m9,m10,m11,m12,m13⟩,m14,m15,m16,m17,m18,m19,m20,m21,m22⟩:Mat).rules 2 (KC (⟨⟨m0,m1,m2,m3,m4,m5,m6,m7,m8,m9,m10,m11,m12,m13⟩,m14,m15,m16,m17,m18,m19,m20,m21,m22⟩:Mat) 2) m19).2==0<;>try rfl
   cases(A7 (⟨⟨m0,m1,m2,m3,m4,m5,m6,m7,m8,m9,m10,m11,m12,m13⟩,m14,m15,m16,m17,m18,m19,m20,m21,m22⟩:Mat).rules (DX (⟨⟨m0,m1,m2,m3,m4,m5,m6,m7,m8,m9,m10,m11,m12,m13⟩,m14,m15,m16,m17,m18,m19,m20,m21,m22⟩:Mat).rules 2 (KC (⟨⟨m0,m1,m2,m3,m4,m5,m6,m7,m8,m9,m10,m11,m12,m13⟩,m14,m15,m16,m17,m18,m19,m20,m21,m22⟩:Mat) 2) m19).1 (⟨e0,e1,e2,e3,e4,e5,e6,⟨e7,e8,e9,e10,e11,e12,e13,e14,e15,e16,e17,e18⟩⟩:Ev)).2==0<;>rfl
  cases hk3:e0==12
  case true=>
   simp only[PXb];cases m14==4<;>cases e1==m15<;>rfl
  cases hk4:e0==16
  case true=>
   simp only[PXb,mL];cases h3:m14==3
   case false=>simp only[PXb,PXc,PXi,PXr,SX,Nat.reduceAdd,ES,K1];rfl
   simp only[PXb,PXc,PXi,PXr,SX,Nat.reduceAdd,YO (ok.begun h3) hl,ES,K1];rfl
  simp only[PXb];cases h3:m14==3
  case false=>rfl
  have h0:=ok.begun h3;have lv:=Tr (ok.innv (lnx m17) (eP h0 hl)).1;have fl:(inn m17 (IntKind.i64.wrap ((m17.length:Int)-1)).toNat).Fit:=lv.2.2;have wl:(inn m17 (IntKind.i64.wrap ((m17.length:Int)-1)).toNat).before.length+(inn m17 (IntKind.i64.wrap ((m17.length:Int)-1)).toNat).bowlers.length≤1000000:=by
   have h1:=lv.1;have h2:=lv.2.1;change(inn m17 (IntKind.i64.wrap ((m17.length:Int)-1)).toNat).bowlers.length≤11 at h1;change(inn m17 (IntKind.i64.wrap ((m17.length:Int)-1)).toNat).before.length≤11 at h2;omega
  have f1:=Vk (W6 (⟨⟨m0,m1,m2,m3,m4,m5,m6,m7,m8,m9,m10,m11,m12,m13⟩,m14,m15,m16,m17,m18,m19,m20,m21,m22⟩:Mat).rules (inn m17 (IntKind.i64.wrap ((m17.length:Int)-1)).toNat) (⟨e0,e1,e2,e3,e4,e5,e6,⟨e7,e8,e9,e10,e11,e12,e13,e14,e15,e16,e17,e18⟩⟩:Ev)) fl (by omega);simp only[PXb,PXc,PXi,PXr,Bo,Inn.eta,SX,Nat.reduceAdd,List.length_set,YO h0 hl,D1,RE fl wl hN hs h13,FC,AZ,lnx];generalize hX:A7 (⟨⟨m0,m1,m2,m3,m4,m5,m6,m7,m8,m9,m10,m11,m12,m13⟩,m14,m15,m16,m17,m18,m19,m20,m21,m22⟩:Mat).rules (inn m17 (IntKind.i64.wrap ((m17.length:Int)-1)).toNat) (⟨e0,e1,e2,e3,e4,e5,e6,⟨e7,e8,e9,e10,e11,e12,e13,e14,e15,e16,e17,e18⟩⟩:Ev)=X at f1;have fy:=U6 (IntKind.i64.wrap ((m17.length:Int)-1)).toNat hf f1;generalize hy:m17.set (IntKind.i64.wrap ((m17.length:Int)-1)).toNat X.1=ys at fy;have ly:ys.length=m17.length:=by grind
  cases X.2==0<;>try rfl
  cases h13k:e0==13
  case false=>rfl
  cases hsd:e1==X.1.side
  case true=>rfl
  simp only[PXb,Option.bind_assoc];have e0w:IntKind.i64.wrap ((m17.length:Int)-1)=(m17.length:Int)-1-((0:Nat):Int):=by
   rw[beq_eq_false_iff_ne]at h0;rw[A0 (by omega) (by omega)];omega
  rw[e0w];have hside:=AAs (e:=(⟨e0,e1,e2,e3,e4,e5,e6,⟨e7,e8,e9,e10,e11,e12,e13,e14,e15,e16,e17,e18⟩⟩:Ev)) he h13k;simp only at hside;refine AQ (aZ (len:=m17.length) (fun j=>[.int ((m17.length:Int)-1-(j:Int))]) (fun j=>cond ((inn ys (m17.length-1-j)).side==e1) (some [PV.str m0,PV.int m1,PV.int m2,PV.int m3,PV.int m4,PV.int m5,PV.int m6,PV.int m7,PV.bool m8,PV.int m9,PV.int m10,PV.int m11,PV.int m12,PV.rows m13,PV.int m14,PV.int m15,PV.bool m16,PV.rows (Ap (ys.set (m17.length-1-j) (WM (inn ys (m17.length-1-j))))),PV.int m18,PV.int m19,PV.int m20,PV.int m21,PV.int m22]) none) ?_ ?_ m17.length 0 N (by omega) (by omega)) ?_
  ·intro self;have q1:iLe 0 ((m17.length:Int)-1-(m17.length:Int))=false:=by simp only[iLe,decide_eq_false_iff_not];omega
   simp only[PXb,q1]
  ·intro i self hi;have q1:iLe 0 ((m17.length:Int)-1-(i:Int))=true:=by simp only[iLe,decide_eq_true_eq];omega
   have q2:iIn ((m17.length:Int)-1-(i:Int)) (m17.length:Int)=true:=by simp only[iIn,decide_eq_true_eq];omega
   have q3:((m17.length:Int)-1-(i:Int)).toNat=m17.length-1-i:=by omega
   have q4:IntKind.i64.wrap ((m17.length:Int)-1-(i:Int)-1)=(m17.length:Int)-1-((i+1:Nat):Int):=by rw[A0 (by omega) (by omega)];omega
   have q5:=fy (m17.length-1-i) (by omega);simp only[PXb,PXc,q1,q2,q3,q4,Ig,TH q5,PXm]
   grind
  have hfa:=xZ ys e1 (fun k=>[PV.str m0,PV.int m1,PV.int m2,PV.int m3,PV.int m4,PV.int m5,PV.int m6,PV.int m7,PV.bool m8,PV.int m9,PV.int m10,PV.int m11,PV.int m12,PV.rows m13,PV.int m14,PV.int m15,PV.bool m16,PV.rows (Ap (ys.set k (WM (inn ys k)))),PV.int m18,PV.int m19,PV.int m20,PV.int m21,PV.int m22]) m17.length m17.length (Nat.le_refl _);rw[Nat.sub_self]at hfa;rw[hfa];unfold Mn;simp only[ly];cases PT ys e1 m17.length with
  |some k=>rfl
  |none=>
   rcases hside with h|h<;>subst h
   ·rfl
   rfl
 have ak:=zo ok (⟨e0,e1,e2,e3,e4,e5,e6,⟨e7,e8,e9,e10,e11,e12,e13,e14,e15,e16,e17,e18⟩⟩:Ev);generalize Ky (⟨⟨m0,m1,m2,m3,m4,m5,m6,m7,m8,m9,m10,m11,m12,m13⟩,m14,m15,m16,m17,m18,m19,m20,m21,m22⟩:Mat) (⟨e0,e1,e2,e3,e4,e5,e6,⟨e7,e8,e9,e10,e11,e12,e13,e14,e15,e16,e17,e18⟩⟩:Ev)=A at ak;obtain⟨⟨⟨a0,a1,a2,a3,a4,a5,a6,a7,a8,a9,a10,a11,a12,a13⟩,a14,a15,a16,a17,a18,a19,a20,a21,a22⟩,l⟩:=A;obtain⟨k1,k2,k3,k4⟩:=ak;simp only at k1 k2 k3 k4;have hl5:a17.length≤1048576:=by omega
 have hs5:a0.size≤1048576:=by
  simp_all
 simp only[PXb,PXc,PXk,PXi,SX,Nat.reduceAdd];cases hl0:l==0
 case false=>rfl
 simp only[PXb,C4];cases h3:a14==3
 case false=>rfl
 have h0:=k4 hl0 h3;have li:=YO h0 (show a17.length≤1000000 by omega);simp only[PXb,PXc,PXi,li];cases he2:(inn a17 (IntKind.i64.wrap ((a17.length:Int)-1)).toNat).ending==0
 case true=>simp only[PXb,AZ,lnx,he2]
 simp only[PXb,PXc,PXi,AZ,lnx,he2,LQ,GP,Jm,S6 hN hl5,Jp,lW k2 hN (show a17.length≤1000000 by omega) hs5];unfold Uc;simp only[AZ,lnx];simp only[D0,AZ,lnx];cases hq1:((a17.length:Int)==IntKind.i64.wrap (2*a2))
 case true=>rfl
 cases hq2:((a17.length:Int)==3)
 case true=>
  simp only[PXb];cases iLt (TA a17 (inn a17 (IntKind.i64.wrap ((a17.length:Int)-1)).toNat).side a17.length) (TA a17 (C5 (inn a17 (IntKind.i64.wrap ((a17.length:Int)-1)).toNat).side) a17.length)
  case true=>rfl
  simp only[PXb];cases((a17.length:Int)==2)&&iLt 0 a10&&iLe a10 (IntKind.i64.wrap (TA a17 a15 a17.length-TA a17 (C5 a15) a17.length))<;>rfl
 simp only[PXb];cases((a17.length:Int)==2)&&iLt 0 a10&&iLe a10 (IntKind.i64.wrap (TA a17 a15 a17.length-TA a17 (C5 a15) a17.length))<;>rfl
theorem wJ(m:Mat):(Uc m).rules=m.rules∧(Uc m).inns=m.inns:=by
 unfold Uc
 grind
theorem ke(m:Mat):(C4 m).rules=m.rules∧(C4 m).inns=m.inns:=by
 unfold C4;cases(m.stage==3 && !((AZ m).ending==0))
 ·trivial
 exact wJ m
structure StepOk(r:Rul)(m:Mat):Prop where
 rules:m.rules=r
 fit:Mh m.inns
 len:m.inns.length≤5
theorem yH{r:Rul}{m:Mat}(h:StepOk r m)(e:Ev):StepOk r (EW m e).1:=by
 unfold EW;cases hv:Ib m
 ·exact h
 cases he:evS e==0
 ·exact h
 cases h5:m.stage==5
 ·have a:=zo (ec hv) e;cases hx:(Ky m e).2==0
  ·exact h
  have k:=ke (Ky m e).1;exact⟨k.1.trans (a.rules.trans h.rules),by show Mh (C4 _).inns;rw[k.2];exact a.fit,by show(C4 _).inns.length≤5;rw[k.2];exact a.len⟩
 exact h
theorem xc(r:Rul)(h:((AO r).2==0)=true):StepOk r (AO r).1:=by
 unfold AO at h⊢;cases hc:B8 r==0
 ·simp_all
 exact⟨rfl,fun i hi=>absurd hi (Nat.not_lt_zero i),Nat.zero_le _⟩
theorem Zz{m:Mat}{e:Ev}(h:((EW m e).2==0)=true):Ib m=true∧(evS e==0)=true∧(m.stage==5)=false∧((Ky m e).2==0)=true∧(EW m e).1=C4 (Ky m e).1:=by
 unfold EW at h⊢
 grind
theorem UR{m:Mat}{e:Ev}(h:((EW m e).2==0)=true)(hk:(e.kind==4)=true):(m.stage==3)=true∧((m.inns.length:Int)==0)=false∧((A7 m.rules (AZ m) e).2==0)=true∧(EW m e).1.inns=m.inns.set (lnx m.inns) (A7 m.rules (AZ m) e).1:=by
 obtain⟨hv,he,h5,ha,hs⟩:=Zz h;have hk4:=beq_iff_eq.1 hk;rw[hs,(ke _).2];unfold Ky at ha⊢;simp only[hk4,Int.reduceBEq,cond_false]at ha⊢;cases h3:m.stage==3
 ·simp_all
 rw[h3]at ha;simp only[Bool.not_true,cond_false]at ha⊢;unfold FC at ha⊢;cases hq:(A7 m.rules (AZ m) e).2==0
 ·simp_all
 simp only[hk4,Int.reduceBEq,Bool.false_and,hq,Bool.not_true,cond_false];exact⟨trivial,(ec hv).begun h3,trivial,trivial⟩
def evR(L:Rows)(i:Nat):Ev:=⟨atI L i 0,atI L i 1,atI L i 2,atI L i 3,atB L i 4,atI L i 5,atI L i 6,⟨atI L i 7,atI L i 8,atI L i 9,atI L i 10,atI L i 11,atB L i 12,atI L i 13,atI L i 14,atI L i 15,atI L i 16,atB L i 17,atI L i 18⟩⟩
theorem AF0(L:Rows)(i:Nat):(⟨atI L i 0,atI L i 1,atI L i 2,atI L i 3,atB L i 4,atI L i 5,atI L i 6,⟨atI L i 7,atI L i 8,atI L i 9,atI L i 10,atI L i 11,atB L i 12,atI L i 13,atI L i 14,atI L i 15,atI L i 16,atB L i 17,atI L i 18⟩⟩:Ev)=evR L i:=rfl
def BI(i:Int)(m:Mat)(e:Ev):Mat×Int:=cond (iLe 4000 i) (m,26) (EW m e)
def Jb(L:Rows):Nat→Nat→Mat→Mat×Int×Int
 |0,_,m=>(m,-1,0)
 |k+1,i,m=>cond (!((BI i m (evR L i)).2==0)) (m,(i:Int),(BI i m (evR L i)).2) (Jb L k (i+1) (BI i m (evR L i)).1)
def Ca(i:Int)(m t:Mat)(d:Del):List PV:=
 [.int i,.int (IntKind.i64.wrap ((m.inns.length:Int)-1)),.int (AZ m).complete,.int (AZ m).inover,.int (AZ m).bowler,.int (AZ m).striker,.int (AZ m).other,.bool (AZ m).freehit,
  .int d.type,.int d.source,.int d.runs,.int d.short,.int d.boundary,.bool d.crossed,.int d.how,.int d.victim,.int d.fielder,.int d.second,.bool d.sub,.int d.sector,
  .int (AF m.rules d).batter,.int (AF m.rules d).wides,.int (AF m.rules d).noballs,.int (AF m.rules d).byes,.int (AF m.rules d).legbyes,.int (AF m.rules d).bowler,.bool (AF m.rules d).counts,.bool (AF m.rules d).faced,.bool (AF m.rules d).wicket,.bool (AF m.rules d).swap,
  .int (inn t.inns (lnx m.inns)).runs,.int (inn t.inns (lnx m.inns)).wickets]
def ML(L:Rows):Nat→Nat→Mat→Rows→Rows
 |0,_,_,out=>out
 |k+1,i,m,out=>cond (!((BI i m (evR L i)).2==0)) out (ML L k (i+1) (BI i m (evR L i)).1 (cond ((evR L i).kind==4) (out++[Ca i m (BI i m (evR L i)).1 (evR L i).ball]) out))
def mr(f:Mat×Int×Int):List PV:=[.str f.1.rules.name,.int f.1.rules.side,.int f.1.rules.innings,.int f.1.rules.overs,.int f.1.rules.balls,.int f.1.rules.quota,.int f.1.rules.wide,.int f.1.rules.noball,.bool f.1.rules.freehit,.int f.1.rules.newball,.int f.1.rules.followon,.int f.1.rules.reviews,.int f.1.rules.outside,.rows f.1.rules.power,.int f.1.stage,.int f.1.first,.bool f.1.follow,.rows (Ap f.1.inns),.int f.1.pen1,.int f.1.pen2,.int f.1.win,.int f.1.wside,.int f.1.margin,.int f.2.1,.int f.2.2]
def DU(r:Rul)(L:Rows):Mat×Int×Int:=cond (!((AO r).2==0)) (kD,0,1) (Jb L L.length 0 (AO r).1)
def BG(r:Rul)(L:Rows):Rows:=cond (!((AO r).2==0)) [] (ML L L.length 0 (AO r).1 [])
theorem su(L:Rows):∀k i m,((Jb L k i m).2.1 == -1)=true→(Jb L k i m).2.2=0
 |0,_,_,_=>rfl
 |k+1,i,m,h=>by
  unfold Jb at h⊢;cases hq:(BI i m (evR L i)).2==0
  ·simp_all
  rw[hq]at h;exact su L k (i+1) _ h
theorem sQ(L:Rows):∀k i m out,(ML L k i m out).length≤out.length+k
 |0,_,_,out=>Nat.le_refl _
 |k+1,i,m,out=>by
  unfold ML;cases(BI i m (evR L i)).2==0
  ·simp_all
  have:=sQ L k (i+1) (BI i m (evR L i)).1 (cond ((evR L i).kind==4) (out++[Ca i m (BI i m (evR L i)).1 (evR L i).ball]) out)
  grind
theorem ri{r:Rul}{m:Mat}(h:StepOk r m)(i:Int)(e:Ev):StepOk r (BI i m e).1:=by
 unfold BI;cases iLe 4000 i
 ·exact yH h e
 exact h
theorem YX{m:Mat}{i:Int}{e:Ev}(h:((BI i m e).2==0)=true):BI i m e=EW m e∧iLe 4000 i=false:=by
 unfold BI at h⊢
 grind
theorem zI{N:Nat}{m8 m16:Bool}{m0:ByteArray}{m13:Rows}{m17:List Inn}{i:Int}{e0 e1 e2 e3 e5 e6 e7 e8 e9 e10 e11 e13 e14 e15 e16 e18:Int}{e4 e12 e17:Bool}(hN:2097152<N)(hf:Mh m17)(hl:m17.length≤1000000)(hs:m0.size≤1048576)(h13:m13.length≤1048576):Pz N [.str m0,.int m1,.int m2,.int m3,.int m4,.int m5,.int m6,.int m7,.bool m8,.int m9,.int m10,.int m11,.int m12,.rows m13,.int m14,.int m15,.bool m16,.rows (Ap m17),.int m18,.int m19,.int m20,.int m21,.int m22,.int i,.int e0,.int e1,.int e2,.int e3,.bool e4,.int e5,.int e6,.int e7,.int e8,.int e9,.int e10,.int e11,.bool e12,.int e13,.int e14,.int e15,.int e16,.bool e17,.int e18]=some (Ru (BI i (⟨⟨m0,m1,m2,m3,m4,m5,m6,m7,m8,m9,m10,m11,m12,m13⟩,m14,m15,m16,m17,m18,m19,m20,m21,m22⟩:Mat) (⟨e0,e1,e2,e3,e4,e5,e6,⟨e7,e8,e9,e10,e11,e12,e13,e14,e15,e16,e17,e18⟩⟩:Ev))):=by
 show Ow (std (Iz N) N) (xOf _)=_;generalize hres:(some (Ru (BI i (⟨⟨m0,m1,m2,m3,m4,m5,m6,m7,m8,m9,m10,m11,m12,m13⟩,m14,m15,m16,m17,m18,m19,m20,m21,m22⟩:Mat) (⟨e0,e1,e2,e3,e4,e5,e6,⟨e7,e8,e9,e10,e11,e12,e13,e14,e15,e16,e17,e18⟩⟩:Ev))):Option (List PV))=RR;simp only[Ow,ZS,lq9,std,xOf,PXb,tY hN hf hl hs h13];subst hres;simp only[BI];cases iLe 4000 i<;>rfl
theorem kr{N:Nat}{i:Int}{m8 m16:Bool}{m0:ByteArray}{m13:Rows}{m17:List Inn}{t1 t2 t3 t4 t5 t6 t7 t9 t10 t11 t12 t14 t15 t18 t19 t20 t21 t22:Int}{t8 t16:Bool}{t0:ByteArray}{t13:Rows}{t17:List Inn}{d0 d1 d2 d3 d4 d6 d7 d8 d9 d11:Int}{d5 d10:Bool}(h1:iIn (IntKind.i64.wrap ((m17.length:Int)-1)) (m17.length:Int)=true)(h2:iIn (IntKind.i64.wrap ((m17.length:Int)-1)) (t17.length:Int)=true):Kp N [.int i,.str m0,.int m1,.int m2,.int m3,.int m4,.int m5,.int m6,.int m7,.bool m8,.int m9,.int m10,.int m11,.int m12,.rows m13,.int m14,.int m15,.bool m16,.rows (Ap m17),.int m18,.int m19,.int m20,.int m21,.int m22,.str t0,.int t1,.int t2,.int t3,.int t4,.int t5,.int t6,.int t7,.bool t8,.int t9,.int t10,.int t11,.int t12,.rows t13,.int t14,.int t15,.bool t16,.rows (Ap t17),.int t18,.int t19,.int t20,.int t21,.int t22,.int d0,.int d1,.int d2,.int d3,.int d4,.bool d5,.int d6,.int d7,.int d8,.int d9,.bool d10,.int d11]=some (Ca i (⟨⟨m0,m1,m2,m3,m4,m5,m6,m7,m8,m9,m10,m11,m12,m13⟩,m14,m15,m16,m17,m18,m19,m20,m21,m22⟩:Mat) (⟨⟨t0,t1,t2,t3,t4,t5,t6,t7,t8,t9,t10,t11,t12,t13⟩,t14,t15,t16,t17,t18,t19,t20,t21,t22⟩:Mat) (⟨d0,d1,d2,d3,d4,d5,d6,d7,d8,d9,d10,d11⟩:Del)):=by
 show Ks (std (MW N) N) (xOf _)=_;simp only[Ks,Of,lq9,std,xOf,PXb,PXi,h1,h2,Mf];rfl
def U9(L:Rows)(i:Nat)(s:Rows×Mat):List PV ⊕ Rows×Mat:=cond (!((BI i s.2 (evR L i)).2==0)) (.inl (.int 0::.rows s.1::.int i::.int (BI i s.2 (evR L i)).2::s.2.ls)) (.inr (cond ((evR L i).kind==4) (s.1++[Ca i s.2 (BI i s.2 (evR L i)).1 (evR L i).ball]) s.1,(BI i s.2 (evR L i)).1))
def AC1(out:Rows)(f:Mat×Int×Int):List PV:=cond (f.2.1 == -1) (.int 1::.rows out::f.1.ls) (.int 0::.rows out::.int f.2.1::.int f.2.2::f.1.ls)
theorem pg(L:Rows):∀k i s,lT (U9 L) (fun s=>.int 1::.rows s.1::s.2.ls) k i s=AC1 (ML L k i s.2 s.1) (Jb L k i s.2)
 |0,_,_=>rfl
 |k+1,i,s=>by
  simp only[lT,U9,Jb,ML];cases(BI i s.2 (evR L i)).2==0
  ·rfl
  exact pg L k (i+1) _
def Ps(out:Rows)(f:Mat×Int×Int):List PV:=[.rows out,.str f.1.rules.name,.int f.1.rules.side,.int f.1.rules.innings,.int f.1.rules.overs,.int f.1.rules.balls,.int f.1.rules.quota,.int f.1.rules.wide,.int f.1.rules.noball,.bool f.1.rules.freehit,.int f.1.rules.newball,.int f.1.rules.followon,.int f.1.rules.reviews,.int f.1.rules.outside,.rows f.1.rules.power,.int f.1.stage,.int f.1.first,.bool f.1.follow,.rows (Ap f.1.inns),.int f.1.pen1,.int f.1.pen2,.int f.1.win,.int f.1.wside,.int f.1.margin,.int f.2.1,.int f.2.2]
theorem AEv{m t:Mat}{e:Ev}(hl:m.inns.length≤5)(h:((EW m e).2==0)=true)(hk:(e.kind==4)=true)(ht:(EW m e).1=t):iIn (IntKind.i64.wrap ((m.inns.length:Int)-1)) (m.inns.length:Int)=true∧iIn (IntKind.i64.wrap ((m.inns.length:Int)-1)) (t.inns.length:Int)=true:=by
 obtain⟨_,h2,_,h4⟩:=UR h hk;have:=YO h2 (show m.inns.length≤1000000 by omega)
 simp_all
set_option maxHeartbeats 8000000 in
theorem Je{N:Nat}{r8:Bool}{r0:ByteArray}{r13:Rows}{L:Rows}(hN:2097152<N)(hs:r0.size≤1048576)(h13:r13.length≤1048576)(hL:L.length≤1048576):Bc N [.str r0,.int r1,.int r2,.int r3,.int r4,.int r5,.int r6,.int r7,.bool r8,.int r9,.int r10,.int r11,.int r12,.rows r13,.rows L]=some (Ps (BG (⟨r0,r1,r2,r3,r4,r5,r6,r7,r8,r9,r10,r11,r12,r13⟩:Rul) L) (DU (⟨r0,r1,r2,r3,r4,r5,r6,r7,r8,r9,r10,r11,r12,r13⟩:Rul) L)):=by
  show Pw (std (E4 N) N) (xOf _)=_;generalize hres:(some (Ps (BG (⟨r0,r1,r2,r3,r4,r5,r6,r7,r8,r9,r10,r11,r12,r13⟩:Rul) L) (DU (⟨r0,r1,r2,r3,r4,r5,r6,r7,r8,r9,r10,r11,r12,r13⟩:Rul) L)):Option (List PV))=RR;simp only[Pw,aS,Qf,Kw,lq9,std,xOf,PXb,wI hN hs h13];subst hres;simp only[BG,DU];have nk:=xc (⟨r0,r1,r2,r3,r4,r5,r6,r7,r8,r9,r10,r11,r12,r13⟩:Rul);generalize AO (⟨r0,r1,r2,r3,r4,r5,r6,r7,r8,r9,r10,r11,r12,r13⟩:Rul)=X at nk;obtain⟨⟨⟨m0,m1,m2,m3,m4,m5,m6,m7,m8,m9,m10,m11,m12,m13⟩,m14,m15,m16,m17,m18,m19,m20,m21,m22⟩,l⟩:=X;simp only at nk;simp only[PXb,PXc,PXk,Nat.reduceAdd];cases hl:l==0
  case false=>rfl
  have ok:=nk hl;simp only[PXb];refine AQ (pd (St:=Rows×Mat) (len:=L.length) (enc:=fun i s=>[.rows s.1,.int (i:Int),.str s.2.rules.name,.int s.2.rules.side,.int s.2.rules.innings,.int s.2.rules.overs,.int s.2.rules.balls,.int s.2.rules.quota,.int s.2.rules.wide,.int s.2.rules.noball,.bool s.2.rules.freehit,.int s.2.rules.newball,.int s.2.rules.followon,.int s.2.rules.reviews,.int s.2.rules.outside,.rows s.2.rules.power,.int s.2.stage,.int s.2.first,.bool s.2.follow,.rows (Ap s.2.inns),.int s.2.pen1,.int s.2.pen2,.int s.2.win,.int s.2.wside,.int s.2.margin])
    (body:=U9 L) (fin:=fun s=>.int 1::.rows s.1::s.2.ls) (fun i s=>StepOk (⟨r0,r1,r2,r3,r4,r5,r6,r7,r8,r9,r10,r11,r12,r13⟩:Rul) s.2∧s.1.length≤i) ?_ ?_ L.length 0 ([],(⟨⟨m0,m1,m2,m3,m4,m5,m6,m7,m8,m9,m10,m11,m12,m13⟩,m14,m15,m16,m17,m18,m19,m20,m21,m22⟩:Mat)) N (by omega) (by omega) ⟨ok,Nat.zero_le _⟩) ?_
  · intro m self _;simp only[PXb,PXc,PXn,AH,Aq];rfl
  · intro i s self hi ok;obtain⟨out,⟨⟨a0,a1,a2,a3,a4,a5,a6,a7,a8,a9,a10,a11,a12,a13⟩,a14,a15,a16,a17,a18,a19,a20,a21,a22⟩⟩:=s;obtain⟨ok,hout⟩:=ok;have o1:=ok.rules;have o2:=ok.fit;have o3:=ok.len;simp only at o1 o2 o3 hout;cases o1;have kp:=ri ok (i:Int) (evR L i);have acc:=YX (m:=(⟨⟨r0,r1,r2,r3,r4,r5,r6,r7,r8,r9,r10,r11,r12,r13⟩,a14,a15,a16,a17,a18,a19,a20,a21,a22⟩:Mat)) (i:=(i:Int)) (e:=evR L i);refine⟨?_,?_⟩
    · simp only[PXb,PXc,PXn,AH,BN (show i≤1099511627776 by omega),Ae hi,AM hi,Qf,zI hN o2 (show a17.length≤1000000 by omega) hs h13,CC,oT,Nat.reduceAdd,PXk,PXc,AF0,List.length_append,List.length_cons,List.length_nil,Kw];unfold U9;simp only;generalize hT:BI (i:Int) (⟨⟨r0,r1,r2,r3,r4,r5,r6,r7,r8,r9,r10,r11,r12,r13⟩,a14,a15,a16,a17,a18,a19,a20,a21,a22⟩:Mat) (evR L i)=T at acc;obtain⟨⟨⟨b0,b1,b2,b3,b4,b5,b6,b7,b8,b9,b10,b11,b12,b13⟩,b14,b15,b16,b17,b18,b19,b20,b21,b22⟩,l2⟩:=T;simp only at acc;simp only;cases hl2:l2==0
      case false=>rfl
      have hk0:(evR L i).kind=atI L i 0:=rfl;rw[hk0];simp only[PXb];cases hk:atI L i 0==4
      case false=>rfl
      have ha:=(acc hl2).1;have hd:=AEv (m:=(⟨⟨r0,r1,r2,r3,r4,r5,r6,r7,r8,r9,r10,r11,r12,r13⟩,a14,a15,a16,a17,a18,a19,a20,a21,a22⟩:Mat)) (e:=evR L i) o3 (by grind) hk (congrArg Prod.fst ha).symm;simp only at hd;have h216:iSm ((out.length+1:Nat):Int) 216=true:=Dk (by omega) (by omega);simp only[PXb,PXc,kr hd.1 hd.2,h216];rfl
    intro s' h;unfold U9 at h
    grind
  rw[pg];have he:=su L L.length 0 (⟨⟨m0,m1,m2,m3,m4,m5,m6,m7,m8,m9,m10,m11,m12,m13⟩,m14,m15,m16,m17,m18,m19,m20,m21,m22⟩:Mat);simp only;generalize ML L L.length 0 (⟨⟨m0,m1,m2,m3,m4,m5,m6,m7,m8,m9,m10,m11,m12,m13⟩,m14,m15,m16,m17,m18,m19,m20,m21,m22⟩:Mat) []=out;generalize Jb L L.length 0 (⟨⟨m0,m1,m2,m3,m4,m5,m6,m7,m8,m9,m10,m11,m12,m13⟩,m14,m15,m16,m17,m18,m19,m20,m21,m22⟩:Mat)=f at he;obtain⟨⟨⟨a0,a1,a2,a3,a4,a5,a6,a7,a8,a9,a10,a11,a12,a13⟩,a14,a15,a16,a17,a18,a19,a20,a21,a22⟩,b,l⟩:=f;simp only at he;unfold AC1;cases hb:b == -1
  · rfl
  rw[he hb,beq_iff_eq.1 hb];rfl
end Go.Px
end
