/- Part 14. -/
import Derived.Test.YtlephafgekoeaaaGreatPart13
import Derived.KernelRfl
set_option linter.unusedVariables false
set_option linter.unusedSimpArgs false
section
namespace Go.Px
set_option maxRecDepth 100000
theorem Bq {r:Rul} {L:Rows} (h:Ap r L=0):((AM r).2==0)=true∧BA r=0∧L.length≤4000∧acc L L.length 0 (AM r).1∧E1 r L=(stM L L.length 0 (AM r).1,-1,0):=by
 unfold Ap at h;cases hc:BA r==0
 ·simp_all
 cases hl:iLt 4000 (L.length:Int)
 ·cases hr:(E1 r L).2.2==0
  ·simp_all
  have hn:=(o6 r).trans hc;have hrep:E1 r L=Dq L L.length 0 (AM r).1:=by unfold E1;grind
  obtain⟨k,h1,h2,h3,h4⟩:=Tz L L.length 0 (AM r).1;have l4:L.length≤4000:=by simp only[iLt,decide_eq_false_iff_not]at hl;omega
  grind
 simp_all
theorem jZ {r:Rul} {L:Rows} (h:Ap r L=0):InLog L∧RulOk r:=by
 obtain⟨h1,h2,h3,h4,h5⟩:=Bq h;obtain⟨_,_,h6⟩:=Gr h1 h4 L.length (Nat.le_refl _);refine⟨⟨h3,fun j hj k13=>?_⟩,Dw h2⟩;have e:=beq_iff_eq.1 k13;have:=(h6 j hj).2.play (by rw[e];rfl) (by rw[e];rfl) (by rw[e];rfl) (by rw[e];rfl);exact Nat.le_trans this (Pv L j)
theorem jK {r:Rul} {L:Rows} (h:Ap r L=0) {j:Nat} (hj:j<opn L L.length):j≤3∧(Jt L=1∨Jt L=2)∧sdT L j=sdF L L.length j∧oP (Jt L) (De L L.length) j=sdF L L.length j:=by
 obtain⟨h1,h2,h3,h4,h5⟩:=Bq h;obtain⟨_,_,h6⟩:=Gr h1 h4 L.length (Nat.le_refl _);obtain⟨a,p1,p2,p3,p4,p5⟩:=Zl (L:=L) (by omega) L.length (Nat.le_refl _) j hj;obtain⟨q1,v,q2,q3⟩:=(h6 a p2).2.two p4;rw[p3]at q1;have f:=WO q2 (show a≤L.length by omega);have fs:Jt L=v:=by unfold Jt;rw[f];rfl
 have oo:Bo (Bo (Jt L))=Jt L:=by rw[fs];rcases q3 with e|e<;>rw[e]<;>decide
 have un:=ABm (Jt L) (De L L.length) q1;refine⟨q1,by omega,?_,un⟩;unfold sdT;rw[ABi oo];exact un
theorem AC9 {r:Rul} (h:RulOk r) (e:Ev):0≤(DV r e).bowler∧(DV r e).bowler≤36:=by
 have c:=ABG h e;have h0:=c.ba;have h1:=c.wi;have h2:=c.no;have h3:=c.bo;omega
theorem xK {L:Rows} (hL:L.length≤1048576) {k:Nat} (hk:k<opn L L.length):BI L (k+1)=L.length∨((evR L (BI L (k+1))).kind==2)=true:=by
 by_cases h:k+1<opn L L.length
 ·obtain⟨a,p1,p2,p3,p4,p5⟩:=Zl hL L.length (Nat.le_refl _) (k+1) h;have:BI L (k+1)=a:=by unfold BI;simp_all
  simp_all
 exact Or.inl (by unfold BI;grind)
theorem Er {x:Option (List PV)} {v:List PV} {f:List PV→Option (List PV)} {r:Option (List PV)} (h:x=some v) (hk:f v=r):x.bind f=r:=by simp_all
theorem Xg {L:Rows}:∀k i m out,NA L (k+1) i m out=cond ((evR L (i+k)).kind==4) (NA L k i m out++[CG ((i+k:Nat):Int) (stM L k i m) (BB ((i+k:Nat):Int) (stM L k i m) (evR L (i+k))).1 (evR L (i+k)).ball]) (NA L k i m out)
 |0,i,m,out=>rfl
 |k+1,i,m,out=>by
  have ih:=Xg (L:=L) k (i+1) (BB i m (evR L i)).1 (cond ((evR L i).kind==4) (out++[CG i m (BB i m (evR L i)).1 (evR L i).ball]) out);rw[show i+1+k=i+(k+1) by omega]at ih;exact ih
def GV (x:List PV):List PV:=[.int (pvI (AA x 0)),.int (pvI (AA x 1)),.int (pvI (AA x 2)),.int (pvI (AA x 3)),.int (pvI (AA x 4)),.int (pvI (AA x 5)),.int (pvI (AA x 6)),.bool (pvB (AA x 7)),.int (pvI (AA x 8)),.int (pvI (AA x 9)),.int (pvI (AA x 10)),.int (pvI (AA x 11)),.int (pvI (AA x 12)),.bool (pvB (AA x 13)),.int (pvI (AA x 14)),.int (pvI (AA x 15)),.int (pvI (AA x 16)),.int (pvI (AA x 17)),.bool (pvB (AA x 18)),.int (pvI (AA x 19)),.int (pvI (AA x 20)),.int (pvI (AA x 21)),.int (pvI (AA x 22)),.int (pvI (AA x 23)),.int (pvI (AA x 24)),.int (pvI (AA x 25)),.bool (pvB (AA x 26)),.bool (pvB (AA x 27)),.bool (pvB (AA x 28)),.bool (pvB (AA x 29)),.int (pvI (AA x 30)),.int (pvI (AA x 31))]
def fil (k:Int):Rows→Rows
 | []=>[]
 |x::D=>cond (pvI (AA x 1)==k) (GV x::fil k D) (fil k D)
theorem kQ (k:Int):∀A B,fil k (A++B)=fil k A++fil k B
 | [],B=>rfl
 |x::A,B=>by
  show cond _ (GV x::fil k (A++B)) (fil k (A++B))=_;rw[kQ k A B];show _=cond (pvI (AA x 1)==k) (GV x::fil k A) (fil k A)++fil k B
  grind
theorem ug (k:Int):∀D,(fil k D).length≤D.length
 | []=>Nat.le_refl _
 |x::D=>by
  have:=ug k D;show(cond (pvI (AA x 1)==k) (GV x::fil k D) (fil k D)).length≤D.length+1
  grind
theorem et {D:Rows} {i:Nat} (h:i<D.length):D.take (i+1)=D.take i++[AB D i]:=by
 rw[List.take_add_one,zzn h];unfold AB
 simp_all
theorem eY {D:Rows} {i:Nat} {k:Int} (h:i<D.length):fil k (D.take (i+1))=cond (pvI (AD D i 1)==k) (fil k (D.take i)++[GV (AB D i)]) (fil k (D.take i)):=by
 rw[et h,kQ];show fil k (D.take i)++cond (pvI (AA (AB D i) 1)==k) [GV (AB D i)] []=_;show _=cond (pvI (AA (AB D i) 1)==k) _ _
 grind
theorem rJ {d:Del} (h:(Dt d==0)=true):0≤d.sector∧d.sector≤8:=by
 unfold Dt at h;cases h1:(iLt d.type 1||iLt 3 d.type||iLt 3 d.source||iLt 10 d.how || !btw d.sector 0 8)
 ·simp only[btw,iLe,Bool.or_eq_false_iff,Bool.not_eq_false',zzj,decide_eq_true_eq]at h1;exact h1.2
 simp_all
structure BallF (r:Rul) (L:Rows) (a:Nat):Prop where
 one:1≤opn L a
 lnx:lnx (stM L a 0 (AM r).1).inns=opn L a-1
 inn:IntKind.i64.wrap (((stM L a 0 (AM r).1).inns.length:Int)-1)=((opn L a-1:Nat):Int)
 ok:InnOk r (AO (stM L a 0 (AM r).1))
 rules:(stM L a 0 (AM r).1).rules=r
 ref:(IB r (AO (stM L a 0 (AM r).1)) (evR L a).ball==0)=true
 over:(AO (stM L a 0 (AM r).1)).complete≤1000
theorem Tf {r:Rul} {L:Rows} (hc:Ap r L=0) {a:Nat} (ha:a<L.length) (hk:((evR L a).kind==4)=true):BallF r L a:=by
 obtain⟨h1,h2,h3,h4,h5⟩:=Bq hc;obtain⟨li,so,_⟩:=Gr h1 h4 a (by omega);obtain⟨_,_,hi⟩:=Gr h1 h4 L.length (Nat.le_refl _);have e:=beq_iff_eq.1 hk;have one:=(hi a ha).2.play (by rw[e];rfl) (by rw[e];rfl) (by rw[e];rfl) (by rw[e];rfl);have a0:=O4 L.length 0 _ h4 a ha;rw[Nat.zero_add]at a0;have q:=(Wz a0).1;rw[q]at a0;obtain⟨g1,g2,g3,g4⟩:=YR a0 hk;have sl:=so.len;have ll:=li.len;have lx:Px.lnx (stM L a 0 (AM r).1).inns=opn L a-1:=by
  unfold Px.lnx;rw[ll,A6 (by omega) (by omega)];omega
 have rl:=so.rules;obtain⟨hv,he,hn,hw,hp,hs⟩:=Pq g3;rw[rl]at hv hp;have ok:=K7.1 hv;have hpb:Bs r (AO (stM L a 0 (AM r).1)) (evR L a)=NE r (AO (stM L a 0 (AM r).1)) (evR L a).ball:=by unfold Bs;rw[e];rfl
 rw[hpb]at hp;have cl:=qf h1 h4 a (by omega);have at1:=cl.at' (opn L a-1) (by omega);have kx:sco (Fi (stM L a 0 (AM r).1)).xs (opn L a-1)=Bl r.balls (AO (stM L a 0 (AM r).1)):=by
  unfold Fi AO;rw[rl,lx];exact QD _ _ (by omega)
 rw[kx]at at1;have bl:DH r.balls (AO (stM L a 0 (AM r).1)).complete (AO (stM L a 0 (AM r).1)).inover=smi L (Uc r) (opn L a-1) a:=congrArg Sco.balls at1;have be:=(fL ok).1;have cb:=AAN (L:=L) (f:=Uc r) (c:=1) (fun e=>by unfold Uc;grind) (opn L a-1) a;have q4:=(Dw ok.code).balls;have io:=ok.io;have co:=ok.complete;unfold B2 at co;have m1:=Int.mul_le_mul_of_nonneg_left q4.1 co.1;refine⟨one,lx,by rw[ll,A6 (by omega) (by omega)];omega,ok,rl,(cU hp).1,?_⟩;omega
def Ao (r:Rul) (L:Rows) (k:Nat):Nat→Rows
 |0=>[]
 |n+1=>cond ((evR L n).kind==4&&Nat.beq (opn L (n+1)) (k+1)) (Ao r L k n++[CG (n:Int) (stM L n 0 (AM r).1) (stM L (n+1) 0 (AM r).1) (evR L n).ball]) (Ao r L k n)
theorem td {r:Rul} {L:Rows} (hc:Ap r L=0) (k:Nat):∀n,n≤L.length→fil (k:Int) (NA L n 0 (AM r).1 [])=Ao r L k n
 |0,_=>rfl
 |n+1,hn=>by
  have ih:=td hc k n (by omega);rw[Xg,Nat.zero_add];have si:=YS (L:=L) n 0 (AM r).1;rw[Nat.zero_add]at si;show _=cond ((evR L n).kind==4&&Nat.beq (opn L (n+1)) (k+1)) _ (Ao r L k n);cases hk:(evR L n).kind==4
  ·exact ih
  have bf:=Tf hc (show n<L.length by omega) hk;have on:opn L (n+1)=opn L n:=fk (by simp_all);rw[cond_true,kQ,ih,←si,on,Bool.true_and];show Ao r L k n++cond (IntKind.i64.wrap (((stM L n 0 (AM r).1).inns.length:Int)-1)==(k:Int)) [_] []=_;rw[bf.inn];have one:=bf.one
  by_cases e:opn L n=k+1
  ·rw[e,S5,show((k+1-1:Nat):Int)=(k:Int) by omega,beq_self_eq_true];rfl
  rw[W1 e,beq_false_of_ne (by omega)]
  simp_all
theorem Xo {r:Rul} {L:Rows} (hc:Ap r L=0) (k:Nat):fil (k:Int) (Bm r L)=Ao r L k L.length:=by
 obtain⟨h1,h2,h3,h4,h5⟩:=Bq hc;have:Bm r L=NA L L.length 0 (AM r).1 []:=by
  unfold Bm;rw[h1];obtain⟨j,j1,j2,j3,j4⟩:=Tz L L.length 0 (AM r).1;show Lq L L.length 0 (AM r).1 []=_;rw[j3 []]
  rcases j4 with⟨j5,_⟩|⟨j5,j6,j7⟩
  ·rw[j5]
  have hh:=O4 L.length 0 _ h4 j j5
  simp_all
 rw[this];exact td hc k L.length (Nat.le_refl _)
structure RowF (r:Rul) (x:List PV):Prop where
 over:∃o:Nat,o≤1000∧pvI (AA x 2)=(o:Int)
 sector:∃s:Nat,s≤8∧pvI (AA x 19)=(s:Int)
 striker:1≤pvI (AA x 5)∧pvI (AA x 5)≤r.side
 cre:∃d,pvI (AA x 20)=(AF r d).batter∧pvI (AA x 21)=(AF r d).wides∧pvI (AA x 22)=(AF r d).noballs∧pvI (AA x 23)=(AF r d).byes∧pvI (AA x 24)=(AF r d).legbyes∧pvI (AA x 25)=(AF r d).bowler
theorem wJ {r:Rul} {L:Rows} (hc:Ap r L=0) {a:Nat} (ha:a<L.length) (hk:((evR L a).kind==4)=true) (t:Mat):RowF r (CG (a:Int) (stM L a 0 (AM r).1) t (evR L a).ball):=by
 have bf:=Tf hc ha hk;obtain⟨q1,q2,q3,q4,q5,q6⟩:=Nw bf.ref;have ls:=rJ q4;have co:=bf.ok.complete;unfold B2 at co;have st:=bf.ok.st;have over:=bf.over;have beg:DX (AO (stM L a 0 (AM r).1)).batters=true:=by
  obtain⟨h1,h2,h3,h4,h5⟩:=Bq hc;have a0:=O4 L.length 0 _ h4 a ha;rw[Nat.zero_add]at a0;have q:=(Wz a0).1;rw[q]at a0;obtain⟨g1,g2,g3,g4⟩:=YR a0 hk;exact fo (Pq g3).2.2.2.1 (by simp_all)
 have z1:=(fV q1 beg).1;rw[beq_eq_false_iff_ne]at z1;refine⟨⟨(AO (stM L a 0 (AM r).1)).complete.toNat,by omega,?_⟩,⟨(evR L a).ball.sector.toNat,by omega,?_⟩,?_,(evR L a).ball,?_⟩
 ·show(AO (stM L a 0 (AM r).1)).complete=_;omega
 ·show(evR L a).ball.sector=_;omega
 ·show 1≤(AO (stM L a 0 (AM r).1)).striker∧(AO (stM L a 0 (AM r).1)).striker≤r.side;omega
 have rl:=bf.rules;show(AF (stM L a 0 (AM r).1).rules _).batter=_∧(AF (stM L a 0 (AM r).1).rules _).wides=_∧(AF (stM L a 0 (AM r).1).rules _).noballs=_∧(AF (stM L a 0 (AM r).1).rules _).byes=_∧(AF (stM L a 0 (AM r).1).rules _).legbyes=_∧(AF (stM L a 0 (AM r).1).rules _).bowler=_
 simp_all
theorem oC {r:Rul} {L:Rows} (hc:Ap r L=0) (k:Nat):∀n,n≤L.length→(Ao r L k n).length≤n∧∀x,x∈Ao r L k n→RowF r x
 |0,_=>⟨Nat.le_refl _,fun x hx=>absurd hx (List.not_mem_nil)⟩
 |n+1,hn=>by
  obtain⟨i1,i2⟩:=oC hc k n (by omega);show(cond ((evR L n).kind==4&&Nat.beq (opn L (n+1)) (k+1)) _ (Ao r L k n)).length≤n+1∧∀x,x∈cond ((evR L n).kind==4&&Nat.beq (opn L (n+1)) (k+1)) _ (Ao r L k n)→RowF r x;cases hk:(evR L n).kind==4
  ·grind
  cases Nat.beq (opn L (n+1)) (k+1)
  ·grind
  refine⟨?_,fun x hx=>?_⟩
  ·simp_all
  rcases List.mem_append.1 hx with hx|hx
  ·grind
  rw[List.mem_singleton.1 hx];exact wJ hc (by omega) hk _
structure Ln where
 runs:Int
 balls:Int
 fours:Int
 sixes:Int
 out:Bool
 how:Int
 bowler:Int
 fielder:Int
 batted:Bool
def lnR (p:Int) (l:Ln):List PV:=[.int p,.int l.runs,.int l.balls,.int l.fours,.int l.sixes,.bool l.out,.int l.how,.int l.bowler,.int l.fielder,.bool l.batted]
def ln0:Ln:={ runs:=0,balls:=0,fours:=0,sixes:=0,out:=false,how:=0,bowler:=0,fielder:=0,batted:=false }
def AS (o:List Int) (F:Int→Ln):Rows:=o.map fun p=>lnR p (F p)
theorem Bt (o:List Int) (F:Int→Ln):(AS o F).length=o.length:=List.length_map _
def Ar (p:Int):List Int→Nat
 | []=>0
 |q::r=>cond (q==p) 0 (Ar p r+1)
theorem wT (p:Int):∀o,Ar p o≤o.length
 | []=>Nat.le_refl _
 |q::r=>by
  have:=wT p r;unfold Ar
  grind
theorem Gn {p:Int}:∀{o:List Int},p∈o→Ar p o<o.length∧o.getD (Ar p o) 0=p
 |q::r,h=>by
  unfold Ar;cases hq:q==p
  ·rcases List.mem_cons.1 h with rfl|h
   ·simp_all
   obtain⟨h1,h2⟩:=Gn h
   simp_all
  simp_all
theorem xM {p:Int}:∀{o:List Int},p∉o→Ar p o=o.length
 | [],_=>rfl
 |q::r,h=>by
  unfold Ar;have hq:(q==p)=false:=beq_eq_false_iff_ne.2 fun e=>h (e▸zzl)
  rw[hq];exact congrArg (·+1) (xM fun hm=>h (zzm _ hm))
theorem Xh {p:Int} {o:List Int}:Ar p o<o.length↔p∈o:=by
 constructor
 ·intro h
  by_cases hm:p∈o
  ·exact hm
  rw[xM hm]at h;omega
 intro h;exact(Gn h).1
theorem Yb {o:List Int} {F:Int→Ln} {j:Nat} (h:j<o.length):AB (AS o F) j=lnR (o.getD j 0) (F (o.getD j 0)):=by
 unfold AB AS
 simp_all
theorem kq {o:List Int} {F:Int→Ln} {p:Int} (h:p∈o):AB (AS o F) (Ar p o)=lnR p (F p):=by
 obtain⟨h1,h2⟩:=Gn h;rw[Yb h1,h2]
def Bi (F:Int→Ln) (p:Int) (v:Ln) (q:Int):Ln:=cond (q==p) v (F q)
theorem Ir (F:Int→Ln) (p:Int) (v:Ln):Bi F p v p=v:=by unfold Bi;simp_all
theorem QI (F:Int→Ln) (p:Int) (v v':Ln):Bi (Bi F p v) p v'=Bi F p v':=funext fun q=>by
 unfold Bi
 grind
theorem sI {F:Int→Ln} {p:Int} {v:Ln}:∀{o:List Int},o.Nodup→p∈o→(AS o F).set (Ar p o) (lnR p v)=AS o (Bi F p v)
 |q::r,hn,h=>by
  obtain⟨h1,h2⟩:=List.nodup_cons.1 hn;unfold Ar;cases hq:q==p
  ·rcases List.mem_cons.1 h with rfl|h
   ·simp_all
   show lnR q (F q)::(AS r F).set (Ar p r) (lnR p v)=lnR q (Bi F p v q)::AS r (Bi F p v);rw[sI h2 h];unfold Bi
   grind
  have e:=beq_iff_eq.1 hq;subst e;show lnR q v::AS r F=lnR q (Bi F q v q)::AS r (Bi F q v);rw[Ir];congr 1;unfold AS;refine List.map_congr_left fun x hx=>?_
  have:(x==q)=false:=beq_eq_false_iff_ne.2 fun e=>h1 (e▸hx)
  unfold Bi
  grind
theorem F8 {o:List Int} {F:Int→Ln} {p:Int} {v:Ln} {off:Nat} {vs:List PV} (hn:o.Nodup) (h:p∈o) (e:putRow (lnR p (F p)) off vs=lnR p v) :
    (AS o F).set (Ar p o) (putRow (AB (AS o F) (Ar p o)) off vs)=AS o (Bi F p v):=by
  rw[kq h,e,sI hn h]
theorem zo (o:List Int) (F:Int→Ln) (p:Int) (v:Ln) (h:p∉o):AS o F++[lnR p v]=AS (o++[p]) (Bi F p v):=by
 unfold AS;rw[List.map_append];show _=_++[lnR p (Bi F p v p)];rw[Ir];congr 1;refine List.map_congr_left fun x hx=>?_
 have:(x==p)=false:=beq_eq_false_iff_ne.2 fun e=>h (e▸hx)
 unfold Bi
 grind
theorem vL {o:List Int} {F G:Int→Ln} (h:∀p,p∈o→F p=G p):AS o F=AS o G:=by
 unfold AS
 simp_all
theorem mZ {o:List Int} {F:Int→Ln} {p:Int} {n:Nat} (hn:o.length≤n) {G:(List AQ→Option (List PV))→List PV→Option (List PV)} {k:Nat→List AQ} {R:List PV} {Q:Nat→List PV}
    (h0:∀self,G self ((k o.length).map Leaf.pv)=some R)
    (h1:∀i self,i<o.length→G self ((k i).map Leaf.pv)=cond (o.getD i 0==p) (some (Q i)) (self (k (i+1)))) :
    ∀(f i:Nat),o.length-i<f→i≤Ar p o→C1 G f ((k i).map Leaf.pv)=some (cond (Nat.blt (Ar p o) o.length) (Q (Ar p o)) R):=by
  have below:∀i,i<Ar p o→(o.getD i 0==p)=false:=fun i hi=>by
    have go:∀(o:List Int) (i:Nat),i<Ar p o→(o.getD i 0==p)=false:=fun o=>by
      induction o with
      |nil=>intro i hi;trivial
      |cons q r ih =>
        intro i hi;unfold Ar at hi;cases hq:q==p
        · rw[hq,cond_false]at hi;cases i with
          |zero=>exact hq
          |succ i=>simp_all
        simp_all
    simp_all
  intro f
  induction f with
  |zero=>omega
  |succ f ih =>
    intro i hf hi;have pl:=wT p o
    by_cases hlt:i<o.length
    · show G _ _=_;rw[h1 i _ hlt]
      by_cases hp:i=Ar p o
      · obtain⟨_,h2⟩:=Gn (Xh.1 (hp▸hlt));rw[hp,h2,beq_self_eq_true,cond_true,show Nat.blt (Ar p o) o.length=true from Nat.ble_eq_true_of_le (hp▸hlt)];rfl
      grind
    have e:Ar p o=o.length:=by omega
    have e2:i=o.length:=by omega
    show G _ _=_;rw[e2,h0,e,show Nat.blt o.length o.length=false by
      cases hb:Nat.blt o.length o.length
      · rfl
      simp_all]
    rfl
def Dr (o:List Int) (p:Int):List Int:=cond (Nat.blt (Ar p o) o.length) o (o++[p])
theorem Ll {p:Int} {o:List Int}:Nat.blt (Ar p o) o.length=true↔p∈o:=⟨fun h=>Xh.1 (Nat.le_of_ble_eq_true h),fun h=>Nat.ble_eq_true_of_le (Xh.2 h)⟩
theorem Ij {o:List Int} {p:Int} (h:o.Nodup):(Dr o p).Nodup:=by
 unfold Dr;cases hb:Nat.blt (Ar p o) o.length
 ·rw[cond_false];refine List.nodup_append.2 ⟨h,List.nodup_cons.2 ⟨List.not_mem_nil,List.nodup_nil⟩,fun x hx y hy e=>?_⟩;have hy:=List.mem_singleton.1 hy;rw[e,hy]at hx;have:=Ll.2 hx
  simp_all
 exact h
theorem LY {o:List Int} {p q:Int}:q∈Dr o p↔q∈o∨q=p:=by
 unfold Dr;cases hb:Nat.blt (Ar p o) o.length
 ·simp_all
 have:=Ll.1 hb
 simp_all
theorem XO (o:List Int) (p:Int):(Dr o p).length≤o.length+1:=by
 unfold Dr
 grind
def jP (F:Int→Ln) (o:List Int) (p:Int) (b:Bool):Int→Ln:=Bi F p (cond (Nat.blt (Ar p o) o.length) { F p with batted:=(F p).batted||b } { ln0 with batted:=b })
def Bj (L:Rows):Nat→List Int
 |0=>[]
 |n+1=>cond ((evR L n).kind==2) (Dr (Dr (Bj L n) (evR L n).player) (evR L n).other) (cond ((evR L n).kind==5) (Dr (Bj L n) (evR L n).player) (Bj L n))
def CB (L:Rows) (p:Int):Nat→Bool
 |0=>false
 |n+1=>CB L p n||cond ((evR L n).kind==2) (p==(evR L n).player||p==(evR L n).other) (cond ((evR L n).kind==5) (p==(evR L n).player && !(evR L n).yes) false)
def PT (o:List Int):Nat→List Int
 |0=>o
 |n+1=>Dr (PT o n) ((n:Int)+1)
theorem Lb (L:Rows):∀n,(Bj L n).Nodup
 |0=>List.nodup_nil
 |n+1=>by
  have ih:=Lb L n;unfold Bj;cases(evR L n).kind==2
  ·cases(evR L n).kind==5
   ·exact ih
   exact Ij ih
  exact Ij (Ij ih)
theorem Xi (L:Rows):∀n,(Bj L n).length≤2*n
 |0=>Nat.le_refl _
 |n+1=>by
  have ih:=Xi L n;unfold Bj;cases(evR L n).kind==2
  ·cases(evR L n).kind==5
   ·grind
   have h1:=XO (Bj L n) (evR L n).player
   grind
  have h1:=XO (Bj L n) (evR L n).player;have h2:=XO (Dr (Bj L n) (evR L n).player) (evR L n).other
  grind
theorem OC {o:List Int} (h:o.Nodup):∀n,(PT o n).Nodup
 |0=>h
 |n+1=>Ij (OC h n)
theorem fu (o:List Int):∀n,(PT o n).length≤o.length+n
 |0=>Nat.le_refl _
 |n+1=>by
  have:=fu o n;have h2:=XO (PT o n) ((n:Int)+1);show(Dr _ _).length≤_;omega
theorem fh {o:List Int} {p:Int}:∀{n:Nat},p∈PT o n↔p∈o∨(1≤p∧p≤(n:Int))
 |0=>by
  show p∈o↔_
  grind
 |n+1=>by
  show p∈Dr (PT o n) ((n:Int)+1)↔_;rw[LY,fh]
  grind
theorem TQ {o:List Int} {F:Int→Ln} {i:Nat} (h:i<o.length):pvI (AD (AS o F) i 0)=o.getD i 0:=by
 unfold AD;rw[Yb h];rfl
set_option maxHeartbeats 1000000 in
theorem DN {N:Nat} {o:List Int} {F:Int→Ln} {p:Int} (ho:o.length≤1048576) (hN:2097152<N):CS N [.rows (AS o F),.rows [[.int p]]]=some [.int (cond (Nat.blt (Ar p o) o.length) (Ar p o:Int) (-1))]:=by
 show CR (std (B7 N) N) (xOf _)=_;simp only[CR,lq9,std,xOf,PXb];refine AN (mZ (o:=o) (F:=F) (p:=p) (n:=o.length) (Nat.le_refl _) (k:=fun i=>[.int (i:Int)]) (R:=[.int 1]) (Q:=fun i=>[.int 0,.int (i:Int)]) ?_ ?_ N 0 (by omega) (Nat.zero_le _)) ?_
 ·intro self;simp only[PXb,PXc,PXn,AE,Bt,Aj,List.map_cons,List.map_nil,Leaf.pv]
 ·intro i self hi;simp only[PXb,PXc,PXn,AE,Bt,Ai (show i≤1099511627776 by omega),Aa hi,AJ hi,TQ hi,List.map_cons,List.map_nil,Leaf.pv];rfl
 cases Nat.blt (Ar p o) o.length<;>rfl
theorem xB {o:List Int} {F:Int→Ln} {p:Int} {N:Nat} (hN:o.length<N) {G:(List AQ→Option (List PV))→List PV→Option (List PV)} {k1 k2:List PV→Option (List PV)} {g:Option (List PV)}
    (h0:∀self,G self [.int (o.length:Int),.int p]=some [.int 1,.int p])
    (h1:∀i self,i<o.length→G self [.int (i:Int),.int p]=cond (o.getD i 0==p) (some [.int 0,.int (i:Int),.int p]) (self [.int ((i+1:Nat):Int),.int p]))
    (hk:(k1 (cond (Nat.blt (Ar p o) o.length) [.int 0,.int (Ar p o:Int),.int p] [.int 1,.int p])).bind k2=g):((C1 G N [.int 0,.int p]).bind k1).bind k2=g:=by
  have:=mZ (o:=o) (F:=F) (p:=p) (n:=o.length) (Nat.le_refl _) (k:=fun i=>[.int (i:Int),.int p]) (R:=[.int 1,.int p]) (Q:=fun i=>[.int 0,.int (i:Int),.int p]) (G:=G) h0 h1 N 0 (by omega) (Nat.zero_le _);have e:C1 G N [.int 0,.int p]=some (cond (Nat.blt (Ar p o) o.length) [.int 0,.int (Ar p o:Int),.int p] [.int 1,.int p]):=this
  simp_all
theorem ABb {p:Int} {o:List Int} (h:p∉o):Ar p (o++[p])=o.length:=by
 induction o with
 |nil=>show Ar p [p]=0;unfold Ar;simp_all
 |cons q r ih =>
  show Ar p (q::(r++[p]))=_;unfold Ar
  grind
def FG (B:Int→Bool) (p:Int):Ln:={ ln0 with batted:=B p }
theorem kf {o:List Int} {B:Int→Bool} {p:Int} {b:Bool} (hB:∀q,q∉o→B q=false):jP (FG B) o p b=FG fun q=>B q||(q==p&&b):=funext fun q=>by
 have e:FG (fun q=>B q||(q==p&&b)) q={ ln0 with batted:=B q||(q==p&&b) }:=rfl;rw[e];unfold jP Bi;cases hq:q==p
 ·rw[cond_false,Bool.false_and,Bool.or_false];rfl
 have e:=beq_iff_eq.1 hq;subst e;rw[Bool.true_and,cond_true];cases hb:Nat.blt (Ar q o) o.length
 ·have:B q=false:=hB q fun hm=>by rw[Ll.2 hm]at hb;cases hb
  simp_all
 rfl
theorem WZ {L:Rows} {p:Int}:∀n,p∉Bj L n→CB L p n=false
 |0,_=>rfl
 |n+1,h=>by
  unfold Bj at h;unfold CB;cases h2:(evR L n).kind==2
  ·rw[h2,cond_false]at h;cases h5:(evR L n).kind==5
   ·rw[h5,cond_false]at h;rw[WZ n h];rfl
   rw[h5,cond_true]at h;have h4:¬(p∈Bj L n∨p=(evR L n).player):=fun hc=>h (LY.2 hc)
   rw[WZ n (fun hc=>h4 (.inl hc)),beq_eq_false_iff_ne.2 (fun e=>h4 (.inr e))];rfl
  rw[h2,cond_true]at h;have h3:¬(p∈Dr (Bj L n) (evR L n).player∨p=(evR L n).other):=fun hc=>h (LY.2 hc)
  have h4:¬(p∈Bj L n∨p=(evR L n).player):=fun hc=>h3 (.inl (LY.2 hc))
  rw[WZ n (fun hc=>h4 (.inl hc)),cond_true,beq_eq_false_iff_ne.2 (fun e=>h4 (.inr e)),beq_eq_false_iff_ne.2 (fun e=>h3 (.inr e))];rfl
def zw (L:Rows) (n:Nat):Rows:=AS (Bj L n) (FG fun p=>CB L p n)
def kg (L:Rows) (k:Nat):Rows:=AS (PT (Bj L L.length) k) (FG fun p=>CB L p L.length)
theorem oX {o:List Int} {B:Int→Bool} {p:Int} (hB:∀q,q∉o→B q=false):jP (FG B) o p true=FG fun q=>B q||q==p:=by
 have e:(fun q:Int=>B q||(q==p&&true))=fun q=>B q||q==p:=funext fun q=>by simp_all
 rw[kf hB,e]
def Ts (F:Int→Ln) (o:List Int) (p:Int):Int→Ln:=cond (Nat.blt (Ar p o) o.length) F (Bi F p ln0)
theorem yj {o:List Int} {F:Int→Ln} {p:Int}:AS (Dr o p) (Ts F o p)=cond (Nat.blt (Ar p o) o.length) (AS o F) (AS o F++[lnR p ln0]):=by
 unfold Dr Ts;cases hb:Nat.blt (Ar p o) o.length
 ·have hm:p∉o:=fun hm=>by rw[Ll.2 hm]at hb;cases hb
  exact(zo o F p ln0 hm).symm
 rfl
theorem hZ (o:List Int) (p:Int):p∈Dr o p:=LY.2 (.inr rfl)
theorem ABN {o:List Int} {p:Int}:Ar p (Dr o p)=cond (Nat.blt (Ar p o) o.length) (Ar p o) o.length:=by
 unfold Dr;cases hb:Nat.blt (Ar p o) o.length
 ·have hm:p∉o:=fun hm=>by rw[Ll.2 hm]at hb;cases hb
  exact ABb hm
 rfl
theorem Ye {o:List Int} {F:Int→Ln} {p:Int} {b:Bool}:Bi (Ts F o p) p { Ts F o p p with batted:=(Ts F o p p).batted||b }=jP F o p b:=by
 unfold Ts jP;cases hb:Nat.blt (Ar p o) o.length
 ·rw[cond_false,QI,Ir];rfl
 rfl
theorem cM {o:List Int} {F:Int→Ln} {p:Int} {N:Nat} (hN:o.length<N) (hl:o.length≤100000) {G:(List AQ→Option (List PV))→List PV→Option (List PV)} {K3:List PV→Option (List PV)} {g:Option (List PV)}
    (h0:∀self,G self [.int (o.length:Int),.int p]=some [.int 1,.int p])
    (h1:∀i self,i<o.length→G self [.int (i:Int),.int p]=cond (o.getD i 0==p) (some [.int 0,.int (i:Int),.int p]) (self [.int ((i+1:Nat):Int),.int p]))
    (hk:K3 [.int (Ar p (Dr o p):Int),.rows (AS (Dr o p) (Ts F o p))]=g) :
    ((C1 G N [PV.int 0,PV.int p]).bind fun c1=>bif pvI (AA c1 0)==((0:Nat):Int)then some [PV.int (pvI (AA c1 1)),PV.int (pvI (AA c1 2))]else some [PV.int (-1),PV.int (pvI (AA c1 1))]).bind
      (fun c1=>(bif iLt (pvI (AA c1 0)) 0 then bif iSm (((AS o F++[[PV.int (pvI (AA c1 1)),PV.int 0,PV.int 0,PV.int 0,PV.int 0,PV.bool false,PV.int 0,PV.int 0,PV.int 0,PV.bool false]]).length:Nat):Int) 72 then some [PV.int (IntKind.i64.wrap ((((AS o F++[[PV.int (pvI (AA c1 1)),PV.int 0,PV.int 0,PV.int 0,PV.int 0,PV.bool false,PV.int 0,PV.int 0,PV.int 0,PV.bool false]]).length:Nat):Int)-1)),PV.rows (AS o F++[[PV.int (pvI (AA c1 1)),PV.int 0,PV.int 0,PV.int 0,PV.int 0,PV.bool false,PV.int 0,PV.int 0,PV.int 0,PV.bool false]])]else none else some [PV.int (pvI (AA c1 0)),PV.rows (AS o F)]).bind K3)=g:=by
  refine xB (F:=F) hN h0 h1 ?_;rw[yj,ABN]at hk;cases hb:Nat.blt (Ar p o) o.length
  · simp only[hb,cond_false]at hk;have ll:(AS o F++[lnR p ln0]).length=o.length+1:=by rw[List.length_append,Bt];rfl
    have e2:iSm (((AS o F++[lnR p ln0]).length:Nat):Int) 72=true:=by rw[ll];exact C4 (by omega) (by omega)
    have e3:IntKind.i64.wrap ((((AS o F++[lnR p ln0]).length:Nat):Int)-1)=(o.length:Int):=by
      rw[ll,A6 (by omega) (by omega)];omega
    have e4:iLt (-1) 0=true:=rfl;have e5:[PV.int p,PV.int 0,PV.int 0,PV.int 0,PV.int 0,PV.bool false,PV.int 0,PV.int 0,PV.int 0,PV.bool false]=lnR p ln0:=rfl;have q:((1:Int)==((0:Nat):Int))=false:=rfl;simp only[PXb,PXc,PXn,AE,q,e4]
    simp_all
  simp only[hb,cond_true]at hk;trivial
theorem yY {o:List Int} {F:Int→Ln} {p:Int} (h:p∈o):pvB (AD (AS o F) (Ar p o) 9)=(F p).batted:=by unfold AD;rw[kq h];rfl
theorem pV {o:List Int} {F:Int→Ln} {p:Int} {b:Bool} (hn:o.Nodup) (h:p∈o) :
    (AS o F).set (Ar p o) (putRow (AB (AS o F) (Ar p o)) 9 [.bool (pvB (AD (AS o F) (Ar p o) 9)||b)])=AS o (Bi F p { F p with batted:=(F p).batted||b }):=by
  rw[yY h,F8 (v:={ F p with batted:=(F p).batted||b }) hn h rfl]
theorem yG {o:List Int} {F:Int→Ln} {p:Int} (hn:o.Nodup) (h:p∈o) :
    (AS o F).set (Ar p o) (putRow (AB (AS o F) (Ar p o)) 9 [.bool (pvB (AD (AS o F) (Ar p o) 9))])=AS o (Bi F p { F p with batted:=(F p).batted||false }):=by
  have:=pV (b:=false) hn h (F:=F)
  simp_all
set_option maxHeartbeats 8000000 in
theorem jf {N:Nat} {r1 r2 r3 r4 r5 r6 r7 r9 r10 r11 r12:Int} {r8:Bool} {r0:ByteArray} {r13:Rows} {L:Rows} (hN:2097152<N) (hL:L.length≤4000) (h0:0≤r1) (h1:r1≤100):KM N [.str r0,.int r1,.int r2,.int r3,.int r4,.int r5,.int r6,.int r7,.bool r8,.int r9,.int r10,.int r11,.int r12,.rows r13,.rows L]=some [.rows (kg L r1.toNat)]:=by
 show KB (std (SA N) N) (xOf _)=_;simp only[KB,lq9,std,xOf,PXb];refine AN (BP (len:=L.length) (fun i=>[.int (i:Int),.rows (zw L i)]) [.rows (zw L L.length)] ?_ ?_ N (by omega)) ?_
 ·intro self;simp only[PXb,PXc,PXn,AE,Aj]
 ·intro i self hi;have on:=Lb L i;have ol:=Xi L i;have wi:IntKind.i64.wrap ((i:Int)+1)=((i+1:Nat):Int):=Ai (show i≤1099511627776 by omega);simp only[PXb,PXc,PXn,AE,Aa hi,AJ hi,zw];have kk:(evR L i).kind=pvI (AD L i 0):=rfl;have kp:(evR L i).player=pvI (AD L i 2):=rfl;have ko:(evR L i).other=pvI (AD L i 3):=rfl;have ky:(evR L i).yes=pvB (AD L i 4):=rfl;have eo:Bj L (i+1)=cond ((evR L i).kind==2) (Dr (Dr (Bj L i) (evR L i).player) (evR L i).other) (cond ((evR L i).kind==5) (Dr (Bj L i) (evR L i).player) (Bj L i)):=rfl;rw[eo,kk];have no:∀q,q∉Bj L i→CB L q i=false:=fun q hq=>WZ i hq
  cases h2:pvI (AD L i 0)==2
  ·cases h5:pvI (AD L i 0)==5
   ·rw[cond_false,cond_false,cond_false,cond_false,wi];have a3:(fun q=>CB L q i)=fun q=>CB L q (i+1):=funext fun q=>by
     show _=(CB L q i||cond ((evR L i).kind==2) _ (cond ((evR L i).kind==5) _ false))
     simp_all
    rw[a3]
   rw[cond_false,cond_true,cond_false,cond_true,←kp];refine cM (by omega) (by omega) ?_ ?_ ?_
   ·intro self;simp only[PXb,PXc,PXn,AE,Bt,Aj]
   ·intro j self hj;simp only[PXb,PXc,PXn,AE,Bt,Ai (show j≤1099511627776 by omega),Aa hj,AJ hj,TQ hj]
   have i1:=hZ (Bj L i) (evR L i).player;have n1:=Ij (p:=(evR L i).player) on;simp only[PXb,PXc,PXn,AE,Bt,AJ (Gn i1).1,Int.toNat_natCast];rw[pV n1 i1,Ye,kf no,wi,←ky];have a3:(fun q=>CB L q i||(q==(evR L i).player && !(evR L i).yes))=fun q=>CB L q (i+1):=funext fun q=>by
    show _=(CB L q i||cond ((evR L i).kind==2) _ (cond ((evR L i).kind==5) (q==(evR L i).player && !(evR L i).yes) false))
    simp_all
   rw[a3]
  rw[cond_true,cond_true,←kp,←ko];refine cM (by omega) (by omega) ?_ ?_ ?_
  ·intro self;simp only[PXb,PXc,PXn,AE,Bt,Aj]
  ·intro j self hj;simp only[PXb,PXc,PXn,AE,Bt,Ai (show j≤1099511627776 by omega),Aa hj,AJ hj,TQ hj]
  have i1:=hZ (Bj L i) (evR L i).player;have n1:=Ij (p:=(evR L i).player) on;have l1:=XO (Bj L i) (evR L i).player;simp only[PXb,PXc,PXn,AE,Bt,AJ (Gn i1).1,Int.toNat_natCast];rw[F8 (v:={ Ts (FG fun p=>CB L p i) (Bj L i) (evR L i).player (evR L i).player with batted:=true }) n1 i1 rfl];have a1:Bi (Ts (FG fun p=>CB L p i) (Bj L i) (evR L i).player) (evR L i).player { Ts (FG fun p=>CB L p i) (Bj L i) (evR L i).player (evR L i).player with batted:=true }=FG fun q=>CB L q i||q==(evR L i).player:=by
   have:=Ye (o:=Bj L i) (F:=FG fun p=>CB L p i) (p:=(evR L i).player) (b:=true);rw[Bool.or_true,oX no]at this;exact this
  rw[a1];refine cM (by omega) (by omega) ?_ ?_ ?_
  ·intro self;simp only[PXb,PXc,PXn,AE,Bt,Aj]
  ·intro j self hj;simp only[PXb,PXc,PXn,AE,Bt,Ai (show j≤1099511627776 by omega),Aa hj,AJ hj,TQ hj]
  have i2:=hZ (Dr (Bj L i) (evR L i).player) (evR L i).other;have n2:=Ij (p:=(evR L i).other) n1;simp only[PXb,PXc,PXn,AE,Bt,AJ (Gn i2).1,Int.toNat_natCast];rw[F8 (v:={ Ts (FG fun q=>CB L q i||q==(evR L i).player) (Dr (Bj L i) (evR L i).player) (evR L i).other (evR L i).other with batted:=true }) n2 i2 rfl];have no2:∀q,q∉Dr (Bj L i) (evR L i).player→(CB L q i||q==(evR L i).player)=false:=fun q hq=>by
   have hq2:¬(q∈Bj L i∨q=(evR L i).player):=fun hc=>hq (LY.2 hc)
   simp_all
  have a2:=Ye (o:=Dr (Bj L i) (evR L i).player) (F:=FG fun q=>CB L q i||q==(evR L i).player) (p:=(evR L i).other) (b:=true);rw[Bool.or_true,oX no2]at a2;rw[a2,wi];have a3:(fun q=>(CB L q i||q==(evR L i).player)||q==(evR L i).other)=fun q=>CB L q (i+1):=funext fun q=>by
   show _=(CB L q i||cond ((evR L i).kind==2) (q==(evR L i).player||q==(evR L i).other) _)
   grind
  rw[a3]
 have on:=Lb L L.length;have ol:=Xi L L.length;have no:∀q,q∉Bj L L.length→CB L q L.length=false:=fun q hq=>WZ L.length hq
 obtain⟨k,hk⟩:∃k:Nat,r1=(k:Int):=⟨r1.toNat,by omega⟩;subst hk;rw[Int.toNat_natCast];simp only[PXb,PXc,PXn,AE];refine AN (BP (len:=k) (fun j=>[.int ((j:Int)+1),.rows (kg L j)]) [.rows (kg L k)] ?_ ?_ N (by omega)) rfl
 ·intro self;have e:iLe ((k:Int)+1) (k:Int)=false:=by simp only[iLe,decide_eq_false_iff_not];omega
  simp only[PXb,PXc,PXn,AE,e]
 intro j self hj;have e:iLe ((j:Int)+1) (k:Int)=true:=by simp only[iLe,decide_eq_true_eq];omega
 have jn:=OC on j;have jl:=fu (Bj L L.length) j;have no3:∀q,q∉PT (Bj L L.length) j→CB L q L.length=false:=fun q hq=>no q fun hc=>hq (fh.2 (.inl hc))
 have eo:kg L (j+1)=AS (Dr (PT (Bj L L.length) j) ((j:Int)+1)) (FG fun p=>CB L p L.length):=rfl;rw[eo];simp only[PXb,PXc,PXn,AE,e,kg];refine cM (by omega) (by omega) ?_ ?_ ?_
 ·intro self;simp only[PXb,PXc,PXn,AE,Bt,Aj]
 ·intro i self hi;simp only[PXb,PXc,PXn,AE,Bt,Ai (show i≤1099511627776 by omega),Aa hi,AJ hi,TQ hi]
 have i1:=hZ (PT (Bj L L.length) j) ((j:Int)+1);have n1:=Ij (p:=(j:Int)+1) jn;have wj:IntKind.i64.wrap ((j:Int)+1+1)=((j+1:Nat):Int)+1:=by rw[A6 (by omega) (by omega)];omega
 have a3:(fun q=>CB L q L.length||(q==(j:Int)+1&&false))=fun q=>CB L q L.length:=funext fun q=>by simp_all
 simp only[PXb,PXc,PXn,AE,Bt,AJ (Gn i1).1,Int.toNat_natCast];rw[yG n1 i1,Ye,kf no3,a3,wj]
structure Up (x y:Sco):Prop where
 side:y.side=x.side
 runs:x.runs≤y.runs
 wk:x.wickets≤y.wickets
 balls:x.balls≤y.balls
theorem Up.refl (x:Sco):Up x x:=⟨rfl,Int.le_refl _,Int.le_refl _,Int.le_refl _⟩
theorem tI {r:Rul} {L:Rows} {n:Nat} (h:Ap r L=0) (hn:n≤L.length):Ap r (B4 L (n:Int))=0∧(E1 r (B4 L (n:Int))).1=stM L n 0 (AM r).1:=by
 obtain⟨h1,h2,h3,h4,h5⟩:=Bq h;have hc:(BA r==0)=true:=by grind
 have an:=xh L.length n 0 _ hn h4;have rp:=sK hc hn an;refine⟨?_,by rw[rp]⟩;unfold Ap;have:iLt 4000 (n:Int)=false:=by simp only[iLt,decide_eq_false_iff_not];omega
 rw[hc,rp,gM hn,this];rfl
def CC (L:Rows) (k:Nat):Rows:=List.drop (BI L k) (List.take (BI L (k+1)) L)
theorem eK {L:Rows} (hL:L.length≤1048576) {k:Nat} (hk:k<opn L L.length):(CC L k).length=BI L (k+1)-BI L k:=ABM (seg hL hk).le
def IH (r:Rul) (L:Rows) (k:Int):Rows×Int:=cond (!(Ap r L==0)) ([],Ap r L) (cond (iLt k 0||iLe (opn L L.length:Int) k) ([],2) (fil k (Bm r L),0))
def vd (x:List PV):Cre:=⟨pvI (AA x 20),pvI (AA x 21),pvI (AA x 22),pvI (AA x 23),pvI (AA x 24),pvI (AA x 25),pvB (AA x 26),pvB (AA x 27),pvB (AA x 28),pvB (AA x 29)⟩
theorem j9 {p:Int} {n:Nat}:inR p n=true↔1≤p∧p≤(n:Int):=by
 unfold inR;simp only[iLe,zzj,decide_eq_true_eq]
theorem ABk {s:Inn} {p q:Int} (h:((LZ s p q).2==0)=true):inR p s.batters.length=true∧inR q s.batters.length=true:=by
 unfold LZ at h
 grind
structure EvIn (r:Rul) (e:Ev):Prop where
 op:e.kind=2→(1≤e.player∧e.player≤r.side)∧(1≤e.other∧e.other≤r.side)
 en:e.kind=5→1≤e.player∧e.player≤r.side
 re:e.kind=6→1≤e.player∧e.player≤r.side
theorem vM {r:Rul} {s:Inn} {e:Ev} (hl:(s.batters.length:Int)=r.side) (h:((Bs r s e).2==0)=true):EvIn r e:=by
 unfold Bs at h;refine⟨fun k=>?_,fun k=>?_,fun k=>?_⟩
 ·rw[k]at h;have h:((LZ s e.player e.other).2==0)=true:=h;obtain⟨a,b⟩:=ABk h;rw[j9,hl]at a b;omega
 ·rw[k]at h;have h:((cond e.yes (E7 s e.player) (Kf s e.player)).2==0)=true:=h;have m:(MK s e.player==0)=true:=by
   cases hm:MK s e.player==0
   ·cases hy:e.yes
    ·rw[hy]at h;unfold Kf at h;simp_all
    rw[hy]at h;unfold E7 at h;simp_all
   rfl
  have:=aJ m;rw[j9,hl]at this;exact this
 rw[k]at h;have h:((Fr s e.player e.yes).2==0)=true:=h;have:=(xI h).1;rw[j9,hl]at this;exact this
theorem tt {r:Rul} {s:Inn} {e:Ev} (h:((Az r s e).2==0)=true):EvIn r e:=by
 obtain⟨hv,he,hn,hw,hp,hs⟩:=Pq h;exact vM (K7.1 hv).lb hp
theorem ABX {r:Rul} {e:Ev} (h2:(e.kind==2)=false) (h5:(e.kind==5)=false) (h6:(e.kind==6)=false):EvIn r e where
 op k:=by simp_all
 en k:=by simp_all
 re k:=by simp_all
theorem Xl {m:Mat} {b:Bool} {x:Mat×Int} (h:((cond (!b) (m,1) x).2==0)=true):b=true∧(x.2==0)=true:=by
 grind
theorem X1 {m:Mat} {t:Int} {x:Mat×Int} (h:((cond (!(t==0)) (m,t) x).2==0)=true):(t==0)=true:=by
 grind
theorem AAb {m:Mat} {e:Ev} (h:((EO m e).2==0)=true):EvIn m.rules e:=by
 unfold EO at h;exact tt (X1 h)
theorem yx {m:Mat} {e:Ev} (h:((Cp m e).2==0)=true):EvIn m.rules e:=by
 obtain⟨hv,he,h5,ha,hs⟩:=QT h;unfold GP at ha;have go:∀k,e.kind=k→(k==1)=false→(k==2)=false→(k==12)=false→(k==16)=false→EvIn m.rules e:=fun k hk a b c d=>by
  rw[hk,a,b,c,d]at ha;have ha:((cond (!(m.stage==3)) (m,1) (EO m e)).2==0)=true:=ha;exact AAb (Xl ha).2
 cases k2:e.kind==2
 ·cases k5:e.kind==5
  ·cases k6:e.kind==6
   ·exact ABX k2 k5 k6
   simp_all
  simp_all
 have k:=beq_iff_eq.1 k2;rw[k]at ha;have ha:((cond (!(m.stage==2)) (m,1) (VY m e)).2==0)=true:=ha;have ha:=(Xl ha).2;unfold VY at ha;exact tt (X1 (Xl ha).2)
theorem AAC {r:Rul} {L:Rows} (hc:Ap r L=0) {a:Nat} (ha:a<L.length):EvIn r (evR L a):=by
 obtain⟨h1,h2,h3,h4,h5⟩:=Bq hc;obtain⟨li,so,_⟩:=Gr h1 h4 a (by omega);have a0:=O4 L.length 0 _ h4 a ha;rw[Nat.zero_add]at a0;have q:=(Wz a0).1;rw[q]at a0;have:=yx a0;rw[so.rules]at this;exact this
def DC (x:List PV):Int:=cond (pvI (AA x 14)==0) 0 (cond (pvI (AA x 15)==1) (pvI (AA x 5)) (cond (pvI (AA x 15)==2) (pvI (AA x 6)) 0))
def YP (x:List PV):Bool:=pvI (AA x 9)==1&&pvI (AA x 10)==0
def Ky (x:List PV) (l:Ln):Ln:={ l with runs:=IntKind.i64.wrap (l.runs+pvI (AA x 20)),balls:=cond (pvB (AA x 27)) (IntKind.i64.wrap (l.balls+1)) l.balls,fours:=cond (YP x&&pvI (AA x 12)==4) (IntKind.i64.wrap (l.fours+1)) l.fours,sixes:=cond (YP x&&pvI (AA x 12)==6) (IntKind.i64.wrap (l.sixes+1)) l.sixes }
def ACe (x:List PV) (l:Ln):Ln:={ l with out:=true,how:=pvI (AA x 14),fielder:=pvI (AA x 16),bowler:=cond (pvB (AA x 28)) (pvI (AA x 4)) l.bowler }
def Hh (x:List PV) (p:Int) (l:Ln):Ln:=cond (DC x==p) (ACe x (cond (pvI (AA x 5)==p) (Ky x l) l)) (cond (pvI (AA x 5)==p) (Ky x l) l)
def dLn (k:Int) (D:Rows) (F:Int→Ln):Nat→Int→Ln
 |0,p=>F p
 |n+1,p=>cond (pvI (AD D n 1)==k) (Hh (AB D n) p (dLn k D F n p)) (dLn k D F n p)
def evL (e:Ev) (p:Int) (l:Ln):Ln:=cond (e.kind==5&&e.yes) (cond (e.player==p) { l with out:=true,how:=9 } l) (cond (e.kind==6 && !e.yes) (cond (e.player==p) { l with out:=true,how:=10 } l) l)
def eLn (E:Rows) (F:Int→Ln):Nat→Int→Ln
 |0,p=>F p
 |n+1,p=>evL (evR E n) p (eLn E F n p)
def X8 (r:Rul) (L:Rows) (k:Int):Rows×Int:=cond ((IH r L k).2==0)
  (AS (PT (Bj (CC L k.toNat) (CC L k.toNat).length) r.side.toNat) (eLn (CC L k.toNat) (dLn k (Bm r L) (FG fun p=>CB (CC L k.toNat) p (CC L k.toNat).length) (Bm r L).length) (CC L k.toNat).length),0) ([],(IH r L k).2)
theorem Z2 {N:Nat} {a:Int} {b:Int} {c:Int} {d:Int} {f:Int} {x:Bool} {h:Int} {v:Int} {i:Int} {j:Int} {y:Bool} {g:Int} {p:Int} {q:Int}  : HK N [.int a,.int b,.int c,.int d,.int f,.bool x,.int h,.int v,.int i,.int j,.bool y,.int g,.int p,.int q]=some [.int (cond (h==0) 0 (cond (v==1) p (cond (v==2) q 0)))]:=by
 show HV (std (PJ N) N) (xOf _)=_;simp only[HV,lq9,std,xOf,PXb]
 grind
theorem ABl {r:Rul} {L:Rows} (hc:Ap r L=0) {a:Nat} (ha:a<L.length) (hk:((evR L a).kind==4)=true) (t:Mat):DC (CG (a:Int) (stM L a 0 (AM r).1) t (evR L a).ball)=0∨(1≤DC (CG (a:Int) (stM L a 0 (AM r).1) t (evR L a).ball)∧DC (CG (a:Int) (stM L a 0 (AM r).1) t (evR L a).ball)≤r.side):=by
 have bf:=Tf hc ha hk;have st:=bf.ok.st;have ot:=bf.ok.ot;have e:DC (CG (a:Int) (stM L a 0 (AM r).1) t (evR L a).ball)=cond ((evR L a).ball.how==0) 0 (cond ((evR L a).ball.victim==1) (AO (stM L a 0 (AM r).1)).striker (cond ((evR L a).ball.victim==2) (AO (stM L a 0 (AM r).1)).other 0)):=rfl
 grind
theorem uc {r:Rul} {L:Rows} (hc:Ap r L=0):∀n,n≤L.length→∀x,x∈NA L n 0 (AM r).1 []→RowF r x∧(DC x=0∨(1≤DC x∧DC x≤r.side))
 |0,_,x,hx=>absurd hx List.not_mem_nil
 |n+1,hn,x,hx=>by
  have ih:=uc hc n (by omega);rw[Xg,Nat.zero_add]at hx;cases hk:(evR L n).kind==4
  ·simp_all
  rw[hk,cond_true]at hx
  rcases List.mem_append.1 hx with hx|hx
  ·grind
  rw[List.mem_singleton.1 hx];exact⟨wJ hc (show n<L.length by omega) hk _,ABl hc (show n<L.length by omega) hk _⟩
theorem mK {r:Rul} {L:Rows} (hc:Ap r L=0):Bm r L=NA L L.length 0 (AM r).1 []:=by
 obtain⟨h1,h2,h3,h4,h5⟩:=Bq hc;unfold Bm;rw[h1];obtain⟨j,j1,j2,j3,j4⟩:=Tz L L.length 0 (AM r).1;show Lq L L.length 0 (AM r).1 []=_;rw[j3 []]
 rcases j4 with⟨j5,_⟩|⟨j5,j6,j7⟩
 ·rw[j5]
 have hh:=O4 L.length 0 _ h4 j j5
 simp_all
theorem yk {D:Rows} {j:Nat} (h:j<D.length):AB D j∈D:=by
 unfold AB
 simp_all
theorem xe {r:Rul} {L:Rows} (hc:Ap r L=0) {j:Nat} (hj:j<(Bm r L).length):RowF r (AB (Bm r L) j)∧(DC (AB (Bm r L) j)=0∨(1≤DC (AB (Bm r L) j)∧DC (AB (Bm r L) j)≤r.side)):=by
 have:=yk hj;rw[mK hc]at this;have e:=mK hc;rw[e]at hj⊢;exact uc hc L.length (Nat.le_refl _) _ this
theorem tZ {r:Rul} {L:Rows} {k:Nat} (hc:Ap r L=0) (hk:k<opn L L.length):∀n,n≤(CC L k).length→∀p,p∈Bj (CC L k) n→1≤p∧p≤r.side
 |0,_,p,hp=>absurd hp List.not_mem_nil
 |n+1,hn,p,hp=>by
  have l4:=(Bq hc).2.2.1;have ih:=tZ hc hk n (by omega);have sl:=eK (L:=L) (by omega) hk;have sg:=seg (L:=L) (by omega) hk;have ei:evR (CC L k) n=evR L (BI L k+n):=qe L n (by omega);have hi:=AAC hc (a:=BI L k+n) (by have:=sg.le;omega);unfold Bj at hp;rw[ei]at hp;cases h2:(evR L (BI L k+n)).kind==2
  ·rw[h2,cond_false]at hp;cases h5:(evR L (BI L k+n)).kind==5
   ·rw[h5,cond_false]at hp;exact ih p hp
   rw[h5,cond_true]at hp
   rcases LY.1 hp with hp|rfl
   ·exact ih p hp
   exact hi.en (beq_iff_eq.1 h5)
  rw[h2,cond_true]at hp;have o:=hi.op (beq_iff_eq.1 h2)
  rcases LY.1 hp with hp|rfl
  ·rcases LY.1 hp with hp|rfl
   ·exact ih p hp
   exact o.1
  exact o.2
theorem cL {r:Rul} {L:Rows} {k:Nat} (hc:Ap r L=0) (hk:k<opn L L.length) (h0:0≤r.side) {p:Int}:p∈PT (Bj (CC L k) (CC L k).length) r.side.toNat↔1≤p∧p≤r.side:=by
 rw[fh];constructor
 ·rintro(h|h)
  ·exact tZ hc hk _ (Nat.le_refl _) p h
  omega
 intro h;exact .inr (by omega)
theorem jI {o:List Int} {p:Int} (hn:o.Nodup) (h:p∈o) :
    (∀(F:Int→Ln) (a:Int),(AS o F).set (Ar p o) (putRow (AB (AS o F) (Ar p o)) 1 [.int a])=AS o (Bi F p { F p with runs:=a })) ∧
    (∀(F:Int→Ln) (a:Int),(AS o F).set (Ar p o) (putRow (AB (AS o F) (Ar p o)) 2 [.int a])=AS o (Bi F p { F p with balls:=a })) ∧
    (∀(F:Int→Ln) (a:Int),(AS o F).set (Ar p o) (putRow (AB (AS o F) (Ar p o)) 3 [.int a])=AS o (Bi F p { F p with fours:=a })) ∧
    (∀(F:Int→Ln) (a:Int),(AS o F).set (Ar p o) (putRow (AB (AS o F) (Ar p o)) 4 [.int a])=AS o (Bi F p { F p with sixes:=a })) ∧
    (∀(F:Int→Ln) (a:Bool),(AS o F).set (Ar p o) (putRow (AB (AS o F) (Ar p o)) 5 [.bool a])=AS o (Bi F p { F p with out:=a })) ∧
    (∀(F:Int→Ln) (a:Int),(AS o F).set (Ar p o) (putRow (AB (AS o F) (Ar p o)) 6 [.int a])=AS o (Bi F p { F p with how:=a })) ∧
    (∀(F:Int→Ln) (a:Int),(AS o F).set (Ar p o) (putRow (AB (AS o F) (Ar p o)) 7 [.int a])=AS o (Bi F p { F p with bowler:=a })) ∧
    (∀(F:Int→Ln) (a:Int),(AS o F).set (Ar p o) (putRow (AB (AS o F) (Ar p o)) 8 [.int a])=AS o (Bi F p { F p with fielder:=a })) ∧
    (∀(F:Int→Ln),pvI (AD (AS o F) (Ar p o) 1)=(F p).runs)∧(∀(F:Int→Ln),pvI (AD (AS o F) (Ar p o) 2)=(F p).balls) ∧
    (∀(F:Int→Ln),pvI (AD (AS o F) (Ar p o) 3)=(F p).fours)∧(∀(F:Int→Ln),pvI (AD (AS o F) (Ar p o) 4)=(F p).sixes):=by
  refine⟨fun F a=>F8 hn h rfl,fun F a=>F8 hn h rfl,fun F a=>F8 hn h rfl,fun F a=>F8 hn h rfl,fun F a=>F8 hn h rfl,fun F a=>F8 hn h rfl,fun F a=>F8 hn h rfl,fun F a=>F8 hn h rfl,fun F=>?_,fun F=>?_,fun F=>?_,fun F=>?_⟩ <;>
  · unfold AD;rw[kq h];rfl
set_option maxHeartbeats 8000000 in
theorem kb {N:Nat} {r1 r2 r3 r4 r5 r6 r7 r9 r10 r11 r12:Int} {r8:Bool} {r0:ByteArray} {r13:Rows} {L:Rows} {k:Int} (hN:2097152<N) (hs:r0.size≤1048576) (h13:r13.length≤1048576) (hL:L.length≤1000000):H7 N [.str r0,.int r1,.int r2,.int r3,.int r4,.int r5,.int r6,.int r7,.bool r8,.int r9,.int r10,.int r11,.int r12,.rows r13,.rows L,.int k]=some [.rows (X8 (⟨r0,r1,r2,r3,r4,r5,r6,r7,r8,r9,r10,r11,r12,r13⟩:Rul) L k).1,.int (X8 (⟨r0,r1,r2,r3,r4,r5,r6,r7,r8,r9,r10,r11,r12,r13⟩:Rul) L k).2]:=by
 show Ig (std (Bf N) N) (xOf _)=_;generalize hres:(some [.rows (X8 (⟨r0,r1,r2,r3,r4,r5,r6,r7,r8,r9,r10,r11,r12,r13⟩:Rul) L k).1,.int (X8 (⟨r0,r1,r2,r3,r4,r5,r6,r7,r8,r9,r10,r11,r12,r13⟩:Rul) L k).2]:Option (List PV))=RR;have hl:L.length≤1048576:=by omega
 simp only[Ig,Ta,Q3,QX,JZ,Ut,OB,lq9,std,xOf,PXb,WP hN hs h13 hl,Qb hN hl,Xf hN hs h13 hl,gL,PXc];subst hres;simp only[X8,IH];cases hc:Ap (⟨r0,r1,r2,r3,r4,r5,r6,r7,r8,r9,r10,r11,r12,r13⟩:Rul) L==0
 ·simp only[PXb,Bool.not_false,hc]
 have pl:=gw (⟨r0,r1,r2,r3,r4,r5,r6,r7,r8,r9,r10,r11,r12,r13⟩:Rul) L;have c0:=beq_iff_eq.1 hc;simp only[PXb,Bool.not_true,PXp,TF];cases hb:iLt k 0||iLe (opn L L.length:Int) k
 ·simp only[Bool.or_eq_false_iff,iLt,iLe,decide_eq_false_iff_not]at hb;obtain⟨K,rfl⟩:∃K:Nat,k=(K:Int):=⟨k.toNat,by omega⟩;have hk:K<opn L L.length:=by omega
  have l4:=(Bq c0).2.2.1;have sg:=seg hl hk;have sgl:=sg.lt;have sge:=sg.le;have sl:=eK hl hk;have rk:=Dw (Bq c0).2.1;have rs:2≤r1∧r1≤11:=rk.side;have rg:iRg (BI L K:Int) (BI L (K+1):Int) (L.length:Int)=true:=by simp only[iRg,decide_eq_true_eq];omega
  have om:=fun p=>cL (p:=p) c0 hk (show 0≤r1 by omega)
  have pin:=fun j (hj:j<(Bm (⟨r0,r1,r2,r3,r4,r5,r6,r7,r8,r9,r10,r11,r12,r13⟩:Rul) L).length)=>xe c0 hj
  have ein:=fun j (hj:j<(CC L K).length)=>AAC c0 (a:=BI L K+j) (by omega)
  have esub:=fun j (hj:j<(CC L K).length)=>qe L (a:=BI L K) (b:=BI L (K+1)) j (by omega)
  change∀j,j<(CC L K).length→evR (CC L K) j=_ at esub;have on:=OC (Lb (CC L K) (CC L K).length) r1.toNat;have ol:=fu (Bj (CC L K) (CC L K).length) r1.toNat;have oe:=Xi (CC L K) (CC L K).length;simp only[PXb,AJ hk,sg.x0,sg.x1,rg,Int.toNat_natCast,beq_self_eq_true];have ex:List.drop (BI L K) (List.take (BI L (K+1)) L)=CC L K:=rfl;rw[ex];have einE:=fun j (hj:j<(CC L K).length)=>(esub j hj)▸(ein j hj)
  clear ein esub ex rg sg;generalize hE:CC L K=E at *
  generalize Bm (⟨r0,r1,r2,r3,r4,r5,r6,r7,r8,r9,r10,r11,r12,r13⟩:Rul) L=D at *
  have e1:E.length≤4000:=by omega
  have e2:=jf (r0:=r0) (r1:=r1) (r2:=r2) (r3:=r3) (r4:=r4) (r5:=r5) (r6:=r6) (r7:=r7) (r8:=r8) (r9:=r9) (r10:=r10) (r11:=r11) (r12:=r12) (r13:=r13) hN e1 (by omega) (by omega);refine Er e2 ?_;simp only[PXb,kg];generalize hO:PT (Bj E E.length) r1.toNat=o at *
  refine AN (BP (len:=D.length) (fun i=>[.int (i:Int),.rows (AS o (dLn K D (FG fun p=>CB E p E.length) i))]) [.rows (AS o (dLn K D (FG fun p=>CB E p E.length) D.length))] ?_ ?_ N (by omega)) ?_
  ·intro self;simp only[PXb,PXc,PXn,AE,Aj]
  ·intro i self hi;have wi:IntKind.i64.wrap ((i:Int)+1)=((i+1:Nat):Int):=Ai (show i≤1099511627776 by omega);obtain⟨rf,vf⟩:=pin i hi;have st:=rf.striker;have so:pvI (AD D i 5)∈o:=(om _).2 st;have ix:=DN (o:=o) (F:=dLn K D (FG fun p=>CB E p E.length) i) (p:=pvI (AD D i 5)) (by omega) hN;rw[Ll.2 so,cond_true]at ix;generalize hF:dLn (K:Int) D (FG fun p=>CB E p E.length)=G at *
   have nx:G (i+1)=fun p=>cond (pvI (AD D i 1)==(K:Int)) (Hh (AB D i) p (G i p)) (G i p):=by rw[←hF];rfl
   simp only[PXb,Aa hi,AJ hi,wi];cases hk1:pvI (AD D i 1)==(K:Int)
   ·have:G (i+1)=G i:=by rw[nx,hk1];rfl
    rw[this];rfl
   rw[Bool.not_true,cond_false];refine Er ix ?_;simp only[PXb,Bt,AJ (Gn so).1,Int.toNat_natCast];have cs:=jI on so;generalize hp:pvI (AD D i 5)=p at *
   generalize hx:AB D i=x at *
   have xx:∀c,AD D i c=AA x c:=fun c=>by unfold AD;rw[hx]
   simp only[xx]at hp⊢;have b46:(pvI (AA x 12)==4)=true→(pvI (AA x 12)==6)=false:=fun h=>by rw[beq_iff_eq.1 h];rfl
   refine Er (v:=[.rows (AS o (Bi (G i) p { G i p with runs:=IntKind.i64.wrap ((G i p).runs+pvI (AA x 20)),balls:=cond (pvB (AA x 27)) (IntKind.i64.wrap ((G i p).balls+1)) (G i p).balls }))]) ?_ ?_
   ·cases pvB (AA x 27)<;>simp only[cond_true,cond_false,cs,Ir,QI]
   simp only[PXb];refine Er (v:=[.rows (AS o (Bi (G i) p (Ky x (G i p))))]) ?_ ?_
   ·unfold Ky YP;cases pvI (AA x 9)==1<;>cases pvI (AA x 10)==0<;>cases h4:pvI (AA x 12)==4<;>cases h6:pvI (AA x 12)==6 <;>
     simp only[Bool.and_true,Bool.and_false,Bool.true_and,Bool.false_and,cond_true,cond_false,cs,Ir,QI]
    rw[b46 h4]at h6;cases h6
   simp only[PXb];have vr:DC x=cond (pvI (AA x 14)==0) 0 (cond (pvI (AA x 15)==1) p (cond (pvI (AA x 15)==2) (pvI (AA x 6)) 0)):=by unfold DC;rw[hp]
   refine Er (v:=[.int (DC x)]) (by rw[vr];exact Z2) ?_;simp only[PXb];have fin:∀F:Int→Ln,(∀q,1≤q→F q=Hh x q (G i q))→AS o F=AS o (G (i+1)):=fun F hF=>vL fun q hq=>by
    rw[nx,hF q ((om q).1 hq).1,hk1];exact rfl
   have two:∀q,Bi (G i) p (Ky x (G i p)) q=cond (pvI (AA x 5)==q) (Ky x (G i q)) (G i q):=fun q=>by
    unfold Bi;rw[hp];cases hq:q==p
    ·rw[show(p==q)=false from beq_eq_false_iff_ne.2 (fun e=>by rw[e,beq_self_eq_true]at hq;cases hq)];rfl
    rw[beq_iff_eq.1 hq,beq_self_eq_true]
   rcases vf with v0|v1
   ·have e:iLt 0 (DC x)=false:=by rw[v0];rfl
    rw[e,cond_false,fin _ fun q hq=>by
     rw[two];unfold Hh;rw[v0,show((0:Int)==q)=false from beq_eq_false_iff_ne.2 (by omega),cond_false]]
   have e:iLt 0 (DC x)=true:=by simp only[iLt,decide_eq_true_eq];omega
   have vo:DC x∈o:=(om _).2 v1;have cv:=jI on vo;have iv:=DN (o:=o) (F:=Bi (G i) p (Ky x (G i p))) (p:=DC x) (by omega) hN;rw[Ll.2 vo,cond_true]at iv;rw[e,cond_true];refine Er iv ?_;simp only[PXb,Bt,AJ (Gn vo).1,Int.toNat_natCast,cv,Ir,QI];have last:∀(b:Bool) (bw:Int),b=pvB (AA x 28)→bw=cond b (pvI (AA x 4)) (Bi (G i) p (Ky x (G i p)) (DC x)).bowler→AS o (Bi (Bi (G i) p (Ky x (G i p))) (DC x) { Bi (G i) p (Ky x (G i p)) (DC x)with out:=true,how:=pvI (AA x 14),fielder:=pvI (AA x 16),bowler:=bw })=AS o (G (i+1)):=fun b bw hb hw=>fin _ fun q hq=>by
    subst hb;subst hw;show Bi _ (DC x) (ACe x (Bi (G i) p (Ky x (G i p)) (DC x))) q=_;unfold Hh;rw[←two q];unfold Bi;cases hq2:q==DC x
    ·rw[show(DC x==q)=false from beq_eq_false_iff_ne.2 (fun e=>by rw[e,beq_self_eq_true]at hq2;cases hq2)];rfl
    rw[beq_iff_eq.1 hq2,beq_self_eq_true]
   cases hw:pvB (AA x 28)
   ·rw[cond_false];exact congrArg (fun R=>self [Leaf.int ((i+1:Nat):Int),Leaf.rows R]) (last false _ hw.symm rfl)
   rw[cond_true];exact congrArg (fun R=>self [Leaf.int ((i+1:Nat):Int),Leaf.rows R]) (last true _ hw.symm rfl)
  simp only[PXb];generalize dLn (K:Int) D (FG fun p=>CB E p E.length) D.length=F0 at *
  refine AN (BP (len:=E.length) (fun i=>[.int (i:Int),.rows (AS o (eLn E F0 i))]) [.rows (AS o (eLn E F0 E.length))] ?_ ?_ N (by omega)) rfl
  ·intro self;simp only[PXb,Aj]
  intro i self hi;have wi:IntKind.i64.wrap ((i:Int)+1)=((i+1:Nat):Int):=Ai (show i≤1099511627776 by omega);have ei:=einE i hi;have kk:(evR E i).kind=pvI (AD E i 0):=rfl;have kp:(evR E i).player=pvI (AD E i 2):=rfl;have ky:(evR E i).yes=pvB (AD E i 4):=rfl;have nx:eLn E F0 (i+1)=fun p=>evL (evR E i) p (eLn E F0 i p):=rfl
  generalize eLn E F0 i=G at *
  simp only[PXb,Aa hi,AJ hi,wi,←kk,←kp,←ky];rw[nx];have fin:∀(h:Int),(∀q,evL (evR E i) q (G q)=cond ((evR E i).player==q) { G q with out:=true,how:=h } (G q))→AS o (Bi G (evR E i).player { G (evR E i).player with out:=true,how:=h })=AS o fun p=>evL (evR E i) p (G p):=fun h hq=>by
   congr 1
   funext q
   rw[hq];unfold Bi;cases hq2:q==(evR E i).player
   ·rw[show((evR E i).player==q)=false from beq_eq_false_iff_ne.2 (fun e=>by rw[e,beq_self_eq_true]at hq2;cases hq2)];rfl
   rw[beq_iff_eq.1 hq2,beq_self_eq_true]
  cases h5:(evR E i).kind==5&&(evR E i).yes
  ·cases h6:(evR E i).kind==6 && !(evR E i).yes
   ·rw[cond_false,cond_false];have:(fun p=>evL (evR E i) p (G p))=G:=funext fun q=>by unfold evL;rw[h5,h6];rfl
    rw[this]
   have h6':=h6;simp only[zzj]at h6';have po:(evR E i).player∈o:=(om _).2 (ei.re (beq_iff_eq.1 h6'.1));have cs:=jI on po;have ix:=DN (o:=o) (F:=G) (p:=(evR E i).player) (by omega) hN;rw[Ll.2 po,cond_true]at ix;rw[cond_false,cond_true];refine Er ix ?_;simp only[PXb,Bt,AJ (Gn po).1,Int.toNat_natCast,cs,Ir,QI];rw[←fin 10 fun q=>by unfold evL;rw[h5,h6];rfl]
  simp only[zzj]at h5;have po:(evR E i).player∈o:=(om _).2 (ei.en (beq_iff_eq.1 h5.1));have cs:=jI on po;have ix:=DN (o:=o) (F:=G) (p:=(evR E i).player) (by omega) hN;rw[Ll.2 po,cond_true]at ix;rw[cond_true];refine Er ix ?_;simp only[PXb,Bt,AJ (Gn po).1,Int.toNat_natCast,cs,Ir,QI];rw[←fin 9 fun q=>by unfold evL;rw[h5.1,h5.2];rfl]
 rfl
def C6 (X:Rows) (p:Int):Nat→Ln
 |0=>ln0
 |n+1=>Hh (AB X n) p (C6 X p n)
def evX (e:Ev) (p:Int) (l:Ln):Ln:=cond (e.kind==2&&(e.player==p||e.other==p)) { l with batted:=true } (cond ((e.kind==5&&e.player==p) && !e.yes) { l with batted:=true } (cond (e.kind==5&&e.player==p) { l with out:=true,how:=9 } (cond ((e.kind==6&&e.player==p) && !e.yes) { l with out:=true,how:=10 } l)))
def PB (E:Rows) (p:Int) (l:Ln):Nat→Ln
 |0=>l
 |n+1=>evX (evR E n) p (PB E p l n)
theorem uF (E:Rows) (p:Int) (F:Int→Ln):∀n,PB E p (F p) n={ eLn E F n p with batted:=(F p).batted||CB E p n }
 |0=>by
  show F p={ F p with batted:=(F p).batted||false }
  simp_all
 |n+1=>by
  show evX (evR E n) p (PB E p (F p) n)={ evL (evR E n) p (eLn E F n p)with batted:=(F p).batted||(CB E p n||cond ((evR E n).kind==2) (p==(evR E n).player||p==(evR E n).other) (cond ((evR E n).kind==5) (p==(evR E n).player && !(evR E n).yes) false)) };rw[uF E p F n];generalize eLn E F n p=l;generalize(F p).batted=b;generalize CB E p n=c;have c1:((evR E n).player==p)=(p==(evR E n).player):=by grind
  have c2:((evR E n).other==p)=(p==(evR E n).other):=by grind
  unfold evX evL
  grind
theorem ABy (x:List PV) (p:Int) (l:Ln) (b:Bool):Hh x p { l with batted:=b }={ Hh x p l with batted:=b }:=by
 unfold Hh;cases DC x==p<;>cases pvI (AA x 5)==p<;>rfl
theorem ACx (e:Ev) (p:Int) (l:Ln) (b:Bool):evL e p { l with batted:=b }={ evL e p l with batted:=b }:=by
 unfold evL
 grind
theorem zp (x:List PV) (p:Int) (l:Ln):(Hh x p l).batted=l.batted:=by
 unfold Hh;cases DC x==p<;>cases pvI (AA x 5)==p<;>rfl
theorem mM (X:Rows) (p:Int):∀n,(C6 X p n).batted=false
 |0=>rfl
 |n+1=>(zp _ _ _).trans (mM X p n)
theorem dq {X Y:Rows} {p:Int}:∀n,(∀i,i<n→AB X i=AB Y i)→C6 X p n=C6 Y p n
 |0,_=>rfl
 |n+1,h=>by
  show Hh (AB X n) p _=Hh (AB Y n) p _;rw[h n (Nat.lt_succ_self n),dq n (fun i hi=>h i (Nat.lt_succ_of_lt hi))]
theorem w8 (A:Rows) (y:List PV) (p:Int):C6 (A++[y]) p (A++[y]).length=Hh y p (C6 A p A.length):=by
 rw[List.length_append];show Hh (AB (A++[y]) A.length) p (C6 (A++[y]) p A.length)=_;have e:AB (A++[y]) A.length=y:=by
  unfold AB
  simp_all
 rw[e,dq (Y:=A) A.length (fun i hi=>by
  unfold AB
  grind)]
theorem rG (k:Int) (D:Rows) (B:Int→Bool) (p:Int):∀n,n≤D.length→dLn k D (FG B) n p={ C6 (fil k (D.take n)) p (fil k (D.take n)).length with batted:=B p }
 |0,_=>rfl
 |n+1,h=>by
  show cond (pvI (AD D n 1)==k) (Hh (AB D n) p (dLn k D (FG B) n p)) (dLn k D (FG B) n p)=_;rw[eY (by omega),rG k D B p n (by omega)];cases pvI (AD D n 1)==k
  ·rfl
  rw[cond_true,cond_true,w8,ABy];rfl
theorem AAE (E:Rows) {F G:Int→Ln} {B:Int→Bool} {p:Int} (h:F p={ G p with batted:=B p }):∀n,eLn E F n p={ eLn E G n p with batted:=B p }
 |0=>h
 |n+1=>by
  show evL (evR E n) p (eLn E F n p)=_;rw[AAE E h n,ACx];rfl
theorem AAl (k:Int) (D E:Rows) (p:Int):PB E p (C6 (fil k D) p (fil k D).length) E.length=eLn E (dLn k D (FG fun p=>CB E p E.length) D.length) E.length p:=by
 have h1:=uF E p (fun p=>C6 (fil k D) p (fil k D).length) E.length;have h2:=rG k D (fun p=>CB E p E.length) p D.length (Nat.le_refl _);rw[List.take_length]at h2;rw[AAE E (G:=fun p=>C6 (fil k D) p (fil k D).length) (B:=fun p=>CB E p E.length) h2 E.length];refine h1.trans ?_;rw[mM,Bool.false_or]
def ADJ (B:Rows) (p:Int):Bool:=atI B (ix p) 0==2
def AC4 (e:Ev) (p:Int):Bool:=(e.kind==5&&e.yes&&e.player==p)||(e.kind==6 && !e.yes&&e.player==p)
end Go.Px
end
