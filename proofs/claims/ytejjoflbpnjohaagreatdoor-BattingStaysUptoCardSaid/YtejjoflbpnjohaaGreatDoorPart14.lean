/- Part 14. -/
import Derived.Test.YtejjoflbpnjohaaGreatDoorPart13
import Derived.KernelRfl
set_option linter.unusedVariables false
set_option linter.unusedSimpArgs false
section
namespace Go.Px
set_option maxRecDepth 100000
theorem DH {r:Rul} {L:Rows} (h:Bd r L=0):((AO r).2==0)=true∧BD r=0∧L.length≤4000∧acc L L.length 0 (AO r).1∧D8 r L=(stM L L.length 0 (AO r).1,-1,0):=by
 unfold Bd at h;cases hc:BD r==0 with
 | false=>rw [hc] at h;rw [show BD r=0 from h] at hc;cases hc
 | true =>
  cases hl:iLt 4000 (L.length:Int) with
  | true=>rw [hc,hl] at h;cases h
  | false =>
   cases hr:(D8 r L).2.2==0 with
   | false=>rw [hc,hl,hr] at h;cases h
   | true =>
    have hn:=(gN r).trans hc;have hrep:D8 r L=C2 L L.length 0 (AO r).1:=by unfold D8;rw [hn];rfl
    obtain ⟨k,h1,h2,h3,h4⟩:=UL L L.length 0 (AO r).1;have l4:L.length≤4000:=by simp only [iLt,decide_eq_false_iff_not] at hl;omega
    rcases h4 with ⟨h5,h6⟩ | ⟨h5,h6,h7⟩
    ·subst h5;exact ⟨hn,beq_iff_eq.1 hc,l4,h2,hrep.trans h6⟩
    ·rw [hrep,h7] at hr;rw [h6] at hr;cases hr
theorem mG {L:Rows} (hL:L.length≤1048576) {k:Nat} (hk:k<opn L L.length):A6 L (k+1)=L.length∨((evR L (A6 L (k+1))).kind==2)=true:=by
 by_cases h:k+1<opn L L.length
 ·obtain ⟨a,p1,p2,p3,p4,p5⟩:=bN hL L.length (Nat.le_refl _) (k+1) h;have:A6 L (k+1)=a:=by unfold A6;rw [if_pos h,p1];rfl
  rw [this];exact Or.inr p4
 ·exact Or.inl (by unfold A6;rw [if_neg h])
theorem mK {N:Nat} {L:Rows}  : OA N [.rows L]=some [.rows (cut L 60)]:=by
 show OS (std (KW N) N) (xOf _)=_;simp only [OS,lq9,std,xOf,PXb,PXc,PXn,PXm,Nat.reduceAdd,Int.reduceBEq,tC (show (0:Int)≤60 by omega)];rfl
def MA (k s p o:Int) (y:Bool) (t f n b h v:Int):List PV:=[.int k,.int s,.int p,.int o,.bool y,.int 0,.int 0,.int t,.int f,.int n,.int 0,.int b,.bool false,.int h,.int v,.int 0,.int 0,.bool false,.int 0]
def W3:Rows:=[MA 1 1 0 0 true 0 0 0 0 0 0,MA 2 0 1 2 false 0 0 0 0 0 0,MA 8 0 2 0 false 0 0 0 0 0 0,MA 3 0 1 0 false 0 0 0 0 0 0,MA 4 0 0 0 false 1 1 1 0 0 0,MA 4 0 0 0 false 1 0 0 0 1 1,MA 2 0 2 1 false 0 0 0 0 0 0,MA 8 0 1 0 false 0 0 0 0 0 0,MA 3 0 2 0 false 0 0 0 0 0 0,MA 4 0 0 0 false 2 0 0 0 0 0,MA 4 0 0 0 false 1 1 0 4 0 0]
def XB:Rul:=⟨⟨#[84,69,83,84]⟩,2,1,1,4,0,1,1,false,0,0,0,11,[]⟩
theorem tW:ON 4194304 []=some [.rows W3]:=by kernel_rfl
theorem qm:KQ 4194304 []=some XB.ls:=by kernel_rfl
theorem Gm {x:Option (List PV)} {v:List PV} {f:List PV→Option (List PV)} {r:Option (List PV)} (h:x=some v) (hk:f v=r):x.bind f=r:=by rw [h];exact hk
theorem tB (L:Rows):(cut L 60).length≤1048576:=Nat.le_trans (mH L 60) (show 60≤1048576 by omega)
theorem Ua {L:Rows}:∀ k i m out,Po L (k+1) i m out=cond ((evR L (i+k)).kind==4) (Po L k i m out++[Dz ((i+k:Nat):Int) (stM L k i m) (Ay ((i+k:Nat):Int) (stM L k i m) (evR L (i+k))).1 (evR L (i+k)).ball]) (Po L k i m out)
 | 0,i,m,out=>rfl
 | k+1,i,m,out=>by
  have ih:=Ua (L:=L) k (i+1) (Ay i m (evR L i)).1 (cond ((evR L i).kind==4) (out++[Dz i m (Ay i m (evR L i)).1 (evR L i).ball]) out);rw [show i+1+k=i+(k+1) by omega] at ih;exact ih
def ZK (x:List PV):List PV:=[.int (pvI (AA x 0)),.int (pvI (AA x 1)),.int (pvI (AA x 2)),.int (pvI (AA x 3)),.int (pvI (AA x 4)),.int (pvI (AA x 5)),.int (pvI (AA x 6)),.bool (pvB (AA x 7)),.int (pvI (AA x 8)),.int (pvI (AA x 9)),.int (pvI (AA x 10)),.int (pvI (AA x 11)),.int (pvI (AA x 12)),.bool (pvB (AA x 13)),.int (pvI (AA x 14)),.int (pvI (AA x 15)),.int (pvI (AA x 16)),.int (pvI (AA x 17)),.bool (pvB (AA x 18)),.int (pvI (AA x 19)),.int (pvI (AA x 20)),.int (pvI (AA x 21)),.int (pvI (AA x 22)),.int (pvI (AA x 23)),.int (pvI (AA x 24)),.int (pvI (AA x 25)),.bool (pvB (AA x 26)),.bool (pvB (AA x 27)),.bool (pvB (AA x 28)),.bool (pvB (AA x 29)),.int (pvI (AA x 30)),.int (pvI (AA x 31))]
def fil (k:Int):Rows→Rows
 | []=>[]
 | x::D=>cond (pvI (AA x 1)==k) (ZK x::fil k D) (fil k D)
theorem cz (k:Int):∀ A B,fil k (A++B)=fil k A++fil k B
 | [],B=>rfl
 | x::A,B=>by
  show cond _ (ZK x::fil k (A++B)) (fil k (A++B))=_;rw [cz k A B];show _=cond (pvI (AA x 1)==k) (ZK x::fil k A) (fil k A)++fil k B;cases pvI (AA x 1)==k<;>rfl
theorem pC {D:Rows} {i:Nat} (h:i<D.length):D.take (i+1)=D.take i++[AL D i]:=by
 rw [List.take_add_one,zzn h];unfold AL;rw [zzk,zzn h];rfl
theorem oH {D:Rows} {i:Nat} {k:Int} (h:i<D.length):fil k (D.take (i+1))=cond (pvI (AF D i 1)==k) (fil k (D.take i)++[ZK (AL D i)]) (fil k (D.take i)):=by
 rw [pC h,cz];show fil k (D.take i)++cond (pvI (AA (AL D i) 1)==k) [ZK (AL D i)] []=_;show _=cond (pvI (AA (AL D i) 1)==k) _ _;cases pvI (AA (AL D i) 1)==k
 ·exact List.append_nil _
 ·rfl
theorem fK {d:Del} (h:(EZ d==0)=true):0≤d.sector∧d.sector≤8:=by
 unfold EZ at h;cases h1:(iLt d.type 1||iLt 3 d.type||iLt 3 d.source||iLt 10 d.how || !btw d.sector 0 8) with
 | true=>rw [h1] at h;cases h
 | false =>
  simp only [btw,iLe,Bool.or_eq_false_iff,Bool.not_eq_false',zzj,decide_eq_true_eq] at h1;exact h1.2
structure BallF (r:Rul) (L:Rows) (a:Nat):Prop where
 one:1≤opn L a
 lnx:lnx (stM L a 0 (AO r).1).inns=opn L a - 1
 inn:IntKind.i64.wrap (((stM L a 0 (AO r).1).inns.length:Int) - 1)=((opn L a - 1:Nat):Int)
 ok:InnOk r (AR (stM L a 0 (AO r).1))
 rules:(stM L a 0 (AO r).1).rules=r
 ref:(Gg r (AR (stM L a 0 (AO r).1)) (evR L a).ball==0)=true
 over:(AR (stM L a 0 (AO r).1)).complete≤1000
theorem iB {r:Rul} {L:Rows} (hc:Bd r L=0) {a:Nat} (ha:a<L.length) (hk:((evR L a).kind==4)=true):BallF r L a:=by
 obtain ⟨h1,h2,h3,h4,h5⟩:=DH hc;obtain ⟨li,so,_⟩:=NO h1 h4 a (by omega);obtain ⟨_,_,hi⟩:=NO h1 h4 L.length (Nat.le_refl _);have e:=beq_iff_eq.1 hk;have one:=(hi a ha).2.play (by rw [e];rfl) (by rw [e];rfl) (by rw [e];rfl) (by rw [e];rfl);have a0:=RK L.length 0 _ h4 a ha;rw [Nat.zero_add] at a0;have q:=(WY a0).1;rw [q] at a0;obtain ⟨g1,g2,g3,g4⟩:=UW a0 hk;have sl:=so.len;have ll:=li.len;have lx:Px.lnx (stM L a 0 (AO r).1).inns=opn L a - 1:=by
  unfold Px.lnx;rw [ll,CE (by omega) (by omega)];omega
 have rl:=so.rules;obtain ⟨hv,he,hn,hw,hp,hs⟩:=P4 g3;rw [rl] at hv hp;have ok:=JA.1 hv;have hpb:Be r (AR (stM L a 0 (AO r).1)) (evR L a)=Kv r (AR (stM L a 0 (AO r).1)) (evR L a).ball:=by unfold Be;rw [e];rfl
 rw [hpb] at hp;have cl:=nA h1 h4 a (by omega);have at1:=cl.at' (opn L a - 1) (by omega);have kx:sco (FR (stM L a 0 (AO r).1)).xs (opn L a - 1)=Bc r.balls (AR (stM L a 0 (AO r).1)):=by
  unfold FR AR;rw [rl,lx];exact P5 _ _ (by omega)
 rw [kx] at at1;have bl:Cf r.balls (AR (stM L a 0 (AO r).1)).complete (AR (stM L a 0 (AO r).1)).inover=smi L (kr r) (opn L a - 1) a:=congrArg Sco.balls at1;have be:=(gx ok).1;have cb:=qD (L:=L) (f:=kr r) (c:=1) (fun e=>by unfold kr;cases (JS r e).counts<;>simp) (opn L a - 1) a;have q4:=(DV ok.code).balls;have io:=ok.io;have co:=ok.complete;unfold Bj at co;have m1:=Int.mul_le_mul_of_nonneg_left q4.1 co.1;refine ⟨one,lx,by rw [ll,CE (by omega) (by omega)];omega,ok,rl,(cn hp).1,?_⟩;rw [bl] at be;omega
def GG (r:Rul) (L:Rows) (k:Nat):Nat→Rows
 | 0=>[]
 | n+1=>cond ((evR L n).kind==4&&Nat.beq (opn L (n+1)) (k+1)) (GG r L k n++[Dz (n:Int) (stM L n 0 (AO r).1) (stM L (n+1) 0 (AO r).1) (evR L n).ball]) (GG r L k n)
theorem kW {r:Rul} {L:Rows} (hc:Bd r L=0) (k:Nat):∀ n,n≤L.length→fil (k:Int) (Po L n 0 (AO r).1 [])=GG r L k n
 | 0,_=>rfl
 | n+1,hn=>by
  have ih:=kW hc k n (by omega);rw [Ua,Nat.zero_add];have si:=RB (L:=L) n 0 (AO r).1;rw [Nat.zero_add] at si;show _=cond ((evR L n).kind==4&&Nat.beq (opn L (n+1)) (k+1)) _ (GG r L k n);cases hk:(evR L n).kind==4 with
  | false=>exact ih
  | true =>
   have bf:=iB hc (show n<L.length by omega) hk;have on:opn L (n+1)=opn L n:=iP (by rw [beq_iff_eq.1 hk];rfl);rw [cond_true,cz,ih,← si,on,Bool.true_and];show GG r L k n++cond (IntKind.i64.wrap (((stM L n 0 (AO r).1).inns.length:Int) - 1)==(k:Int)) [_] []=_;rw [bf.inn];have one:=bf.one
   by_cases e:opn L n=k+1
   ·rw [e,TQ,show ((k+1 - 1:Nat):Int)=(k:Int) by omega,beq_self_eq_true];rfl
   ·rw [S7 e,beq_false_of_ne (by omega)];exact List.append_nil _
theorem Zo {r:Rul} {L:Rows} (hc:Bd r L=0) (k:Nat):fil (k:Int) (B6 r L)=GG r L k L.length:=by
 obtain ⟨h1,h2,h3,h4,h5⟩:=DH hc;have:B6 r L=Po L L.length 0 (AO r).1 []:=by
  unfold B6;rw [h1];obtain ⟨j,j1,j2,j3,j4⟩:=UL L L.length 0 (AO r).1;show K1 L L.length 0 (AO r).1 []=_;rw [j3 []]
  rcases j4 with ⟨j5,_⟩ | ⟨j5,j6,j7⟩
  ·rw [j5]
  ·have hh:=RK L.length 0 _ h4 j j5;rw [hh] at j6;cases j6
 rw [this];exact kW hc k L.length (Nat.le_refl _)
structure RowF (r:Rul) (x:List PV):Prop where
 over:∃ o:Nat,o≤1000∧pvI (AA x 2)=(o:Int)
 sector:∃ s:Nat,s≤8∧pvI (AA x 19)=(s:Int)
 striker:1≤pvI (AA x 5)∧pvI (AA x 5)≤r.side
 cre:∃ d,pvI (AA x 20)=(AD r d).batter∧pvI (AA x 21)=(AD r d).wides∧pvI (AA x 22)=(AD r d).noballs∧pvI (AA x 23)=(AD r d).byes∧pvI (AA x 24)=(AD r d).legbyes∧pvI (AA x 25)=(AD r d).bowler
theorem tE {r:Rul} {L:Rows} (hc:Bd r L=0) {a:Nat} (ha:a<L.length) (hk:((evR L a).kind==4)=true) (t:Mat):RowF r (Dz (a:Int) (stM L a 0 (AO r).1) t (evR L a).ball):=by
 have bf:=iB hc ha hk;obtain ⟨q1,q2,q3,q4,q5,q6⟩:=Ve bf.ref;have ls:=fK q4;have co:=bf.ok.complete;unfold Bj at co;have st:=bf.ok.st;have over:=bf.over;have beg:Cd (AR (stM L a 0 (AO r).1)).batters=true:=by
  obtain ⟨h1,h2,h3,h4,h5⟩:=DH hc;have a0:=RK L.length 0 _ h4 a ha;rw [Nat.zero_add] at a0;have q:=(WY a0).1;rw [q] at a0;obtain ⟨g1,g2,g3,g4⟩:=UW a0 hk;exact Yy (P4 g3).2.2.2.1 (by rw [beq_iff_eq.1 hk];rfl)
 have z1:=(Yu q1 beg).1;rw [beq_eq_false_iff_ne] at z1;refine ⟨⟨(AR (stM L a 0 (AO r).1)).complete.toNat,by omega,?_⟩,⟨(evR L a).ball.sector.toNat,by omega,?_⟩,?_,(evR L a).ball,?_⟩
 ·show (AR (stM L a 0 (AO r).1)).complete=_;omega
 ·show (evR L a).ball.sector=_;omega
 ·show 1≤(AR (stM L a 0 (AO r).1)).striker∧(AR (stM L a 0 (AO r).1)).striker≤r.side;omega
 ·have rl:=bf.rules;show (AD (stM L a 0 (AO r).1).rules _).batter=_∧(AD (stM L a 0 (AO r).1).rules _).wides=_∧(AD (stM L a 0 (AO r).1).rules _).noballs=_∧(AD (stM L a 0 (AO r).1).rules _).byes=_∧(AD (stM L a 0 (AO r).1).rules _).legbyes=_∧(AD (stM L a 0 (AO r).1).rules _).bowler=_;rw [rl];exact ⟨rfl,rfl,rfl,rfl,rfl,rfl⟩
structure Ln where
 runs:Int
 balls:Int
 fours:Int
 sixes:Int
 out:Bool
 how:Int
 bowler:Int
 fielder:Int
 batted:Bool
def lnR (p:Int) (l:Ln):List PV:=[.int p,.int l.runs,.int l.balls,.int l.fours,.int l.sixes,.bool l.out,.int l.how,.int l.bowler,.int l.fielder,.bool l.batted]
def ln0:Ln:={ runs:=0,balls:=0,fours:=0,sixes:=0,out:=false,how:=0,bowler:=0,fielder:=0,batted:=false }
def AK (o:List Int) (F:Int→Ln):Rows:=o.map fun p=>lnR p (F p)
theorem BP (o:List Int) (F:Int→Ln):(AK o F).length=o.length:=List.length_map _
def Af (p:Int):List Int→Nat
 | []=>0
 | q::r=>cond (q==p) 0 (Af p r+1)
theorem mi (p:Int):∀ o,Af p o≤o.length
 | []=>Nat.le_refl _
 | q::r=>by
  have:=mi p r;unfold Af;cases q==p
  ·exact Nat.succ_le_succ this
  ·exact Nat.zero_le _
theorem Eo {p:Int}:∀ {o:List Int},p∈o→Af p o<o.length∧o.getD (Af p o) 0=p
 | q::r,h=>by
  unfold Af;cases hq:q==p with
  | true=>exact ⟨Nat.succ_pos _,beq_iff_eq.1 hq⟩
  | false =>
   rcases List.mem_cons.1 h with rfl | h
   ·rw [beq_self_eq_true] at hq;cases hq
   ·obtain ⟨h1,h2⟩:=Eo h;exact ⟨Nat.succ_lt_succ h1,h2⟩
theorem nr {p:Int}:∀ {o:List Int},p∉o→Af p o=o.length
 | [],_=>rfl
 | q::r,h=>by
  unfold Af;have hq:(q==p)=false:=beq_eq_false_iff_ne.2 fun e=>h (e▸zzl)
  rw [hq];exact congrArg (·+1) (nr fun hm=>h (zzm _ hm))
theorem UO {p:Int} {o:List Int}:Af p o<o.length↔p∈o:=by
 constructor
 ·intro h
  by_cases hm:p∈o
  ·exact hm
  ·rw [nr hm] at h;omega
 ·intro h;exact (Eo h).1
theorem YN {o:List Int} {F:Int→Ln} {j:Nat} (h:j<o.length):AL (AK o F) j=lnR (o.getD j 0) (F (o.getD j 0)):=by
 unfold AL AK;rw [zzk,List.getElem?_map,zzn h,zzk,zzn h];rfl
theorem XC {o:List Int} {F:Int→Ln} {p:Int} (h:p∈o):AL (AK o F) (Af p o)=lnR p (F p):=by
 obtain ⟨h1,h2⟩:=Eo h;rw [YN h1,h2]
def BV (F:Int→Ln) (p:Int) (v:Ln) (q:Int):Ln:=cond (q==p) v (F q)
theorem HJ (F:Int→Ln) (p:Int) (v:Ln):BV F p v p=v:=by unfold BV;rw [beq_self_eq_true];rfl
theorem NT (F:Int→Ln) (p:Int) (v v':Ln):BV (BV F p v) p v'=BV F p v':=funext fun q=>by
 unfold BV;cases q==p<;>rfl
theorem ff {F:Int→Ln} {p:Int} {v:Ln}:∀ {o:List Int},o.Nodup→p∈o→(AK o F).set (Af p o) (lnR p v)=AK o (BV F p v)
 | q::r,hn,h=>by
  obtain ⟨h1,h2⟩:=List.nodup_cons.1 hn;unfold Af;cases hq:q==p with
  | true =>
   have e:=beq_iff_eq.1 hq;subst e;show lnR q v::AK r F=lnR q (BV F q v q)::AK r (BV F q v);rw [HJ];congr 1;unfold AK;refine List.map_congr_left fun x hx=>?_
   have:(x==q)=false:=beq_eq_false_iff_ne.2 fun e=>h1 (e▸hx)
   unfold BV;rw [this];rfl
  | false =>
   rcases List.mem_cons.1 h with rfl | h
   ·rw [beq_self_eq_true] at hq;cases hq
   ·show lnR q (F q)::(AK r F).set (Af p r) (lnR p v)=lnR q (BV F p v q)::AK r (BV F p v);rw [ff h2 h];unfold BV;rw [hq];rfl
theorem E4 {o : List Int} {F : Int → Ln} {p : Int} {v : Ln} {off : Nat} {vs : List PV} (hn : o.Nodup) (h : p ∈ o) (e : BB (lnR p (F p)) off vs = lnR p v) :
    (AK o F).set (Af p o) (BB (AL (AK o F) (Af p o)) off vs)=AK o (BV F p v):=by
  rw [XC h,e,ff hn h]
theorem oN (o:List Int) (F:Int→Ln) (p:Int) (v:Ln) (h:p∉o):AK o F++[lnR p v]=AK (o++[p]) (BV F p v):=by
 unfold AK;rw [List.map_append];show _=_++[lnR p (BV F p v p)];rw [HJ];congr 1;refine List.map_congr_left fun x hx=>?_
 have:(x==p)=false:=beq_eq_false_iff_ne.2 fun e=>h (e▸hx)
 unfold BV;rw [this];rfl
theorem kl {o:List Int} {F G:Int→Ln} (h:∀ p,p∈o→F p=G p):AK o F=AK o G:=by
 unfold AK;exact List.map_congr_left fun x hx=>by rw [h x hx]
theorem dW {o : List Int} {F : Int → Ln} {p : Int} {n : Nat} (hn : o.length ≤ n) {G : (List AX → Option (List PV)) → List PV → Option (List PV)} {k : Nat → List AX} {R : List PV} {Q : Nat → List PV}
    (h0:∀ self,G self ((k o.length).map Leaf.pv)=some R)
    (h1:∀ i self,i<o.length→G self ((k i).map Leaf.pv)=cond (o.getD i 0==p) (some (Q i)) (self (k (i+1)))) :
    ∀ (f i:Nat),o.length - i<f→i≤Af p o→DW G f ((k i).map Leaf.pv)=some (cond (Nat.blt (Af p o) o.length) (Q (Af p o)) R):=by
  have below:∀ i,i<Af p o→(o.getD i 0==p)=false:=fun i hi=>by
    have go:∀ (o:List Int) (i:Nat),i<Af p o→(o.getD i 0==p)=false:=fun o=>by
      induction o with
      | nil=>intro i hi;exact absurd hi (Nat.not_lt_zero _)
      | cons q r ih =>
        intro i hi;unfold Af at hi;cases hq:q==p with
        | true=>rw [hq] at hi;exact absurd hi (Nat.not_lt_zero _)
        | false =>
          rw [hq,cond_false] at hi;cases i with
          | zero=>exact hq
          | succ i=>exact ih i (Nat.lt_of_succ_lt_succ hi)
    exact go o i hi
  intro f
  induction f with
  | zero=>intro i hf;exact absurd hf (Nat.not_lt_zero _)
  | succ f ih =>
    intro i hf hi;have pl:=mi p o
    by_cases hlt:i<o.length
    · show G _ _=_;rw [h1 i _ hlt]
      by_cases hp:i=Af p o
      · obtain ⟨_,h2⟩:=Eo (UO.1 (hp▸hlt));rw [hp,h2,beq_self_eq_true,cond_true,show Nat.blt (Af p o) o.length=true from Nat.ble_eq_true_of_le (hp▸hlt)];rfl
      · rw [below i (by omega),cond_false];exact ih (i+1) (by omega) (by omega)
    · have e:Af p o=o.length:=by omega
      have e2:i=o.length:=by omega
      show G _ _=_;rw [e2,h0,e,show Nat.blt o.length o.length=false by
        cases hb:Nat.blt o.length o.length with
        | false=>rfl
        | true=>exact absurd (Nat.le_of_ble_eq_true hb) (Nat.lt_irrefl _)]
      rfl
def Cr (o:List Int) (p:Int):List Int:=cond (Nat.blt (Af p o) o.length) o (o++[p])
theorem J1 {p:Int} {o:List Int}:Nat.blt (Af p o) o.length=true↔p∈o:=⟨fun h=>UO.1 (Nat.le_of_ble_eq_true h),fun h=>Nat.ble_eq_true_of_le (UO.2 h)⟩
theorem HK {o:List Int} {p:Int} (h:o.Nodup):(Cr o p).Nodup:=by
 unfold Cr;cases hb:Nat.blt (Af p o) o.length with
 | true=>exact h
 | false =>
  rw [cond_false];refine List.nodup_append.2 ⟨h,List.nodup_cons.2 ⟨List.not_mem_nil,List.nodup_nil⟩,fun x hx y hy e=>?_⟩;have hy:=List.mem_singleton.1 hy;rw [e,hy] at hx;have:=J1.2 hx;rw [hb] at this;cases this
theorem Jc {o:List Int} {p q:Int}:q∈Cr o p↔q∈o∨q=p:=by
 unfold Cr;cases hb:Nat.blt (Af p o) o.length with
 | true =>
  have:=J1.1 hb;exact ⟨fun h=>.inl h,fun h=>h.elim id fun e=>e▸this⟩
 | false=>rw [cond_false,List.mem_append,List.mem_singleton]
theorem Tf (o:List Int) (p:Int):(Cr o p).length≤o.length+1:=by
 unfold Cr;cases Nat.blt (Af p o) o.length
 ·rw [cond_false,List.length_append];exact Nat.le_refl _
 ·exact Nat.le_succ _
def ZQ (F:Int→Ln) (o:List Int) (p:Int) (b:Bool):Int→Ln:=BV F p (cond (Nat.blt (Af p o) o.length) { F p with batted:=(F p).batted||b } { ln0 with batted:=b })
def BO (L:Rows):Nat→List Int
 | 0=>[]
 | n+1=>cond ((evR L n).kind==2) (Cr (Cr (BO L n) (evR L n).player) (evR L n).other) (cond ((evR L n).kind==5) (Cr (BO L n) (evR L n).player) (BO L n))
def Bn (L:Rows) (p:Int):Nat→Bool
 | 0=>false
 | n+1=>Bn L p n||cond ((evR L n).kind==2) (p==(evR L n).player||p==(evR L n).other) (cond ((evR L n).kind==5) (p==(evR L n).player && !(evR L n).yes) false)
def MP (o:List Int):Nat→List Int
 | 0=>o
 | n+1=>Cr (MP o n) ((n:Int)+1)
theorem Js (L:Rows):∀ n,(BO L n).Nodup
 | 0=>List.nodup_nil
 | n+1=>by
  have ih:=Js L n;unfold BO;cases (evR L n).kind==2 with
  | true=>exact HK (HK ih)
  | false =>
   cases (evR L n).kind==5 with
   | true=>exact HK ih
   | false=>exact ih
theorem UY (L:Rows):∀ n,(BO L n).length≤2 * n
 | 0=>Nat.le_refl _
 | n+1=>by
  have ih:=UY L n;unfold BO;cases (evR L n).kind==2 with
  | true =>
   have h1:=Tf (BO L n) (evR L n).player;have h2:=Tf (Cr (BO L n) (evR L n).player) (evR L n).other;show (Cr _ _).length≤_;omega
  | false =>
   cases (evR L n).kind==5 with
   | true =>
    have h1:=Tf (BO L n) (evR L n).player;show (Cr _ _).length≤_;omega
   | false=>show (BO L n).length≤_;omega
theorem MS {o:List Int} (h:o.Nodup):∀ n,(MP o n).Nodup
 | 0=>h
 | n+1=>HK (MS h n)
theorem Y9 (o:List Int):∀ n,(MP o n).length≤o.length+n
 | 0=>Nat.le_refl _
 | n+1=>by
  have:=Y9 o n;have h2:=Tf (MP o n) ((n:Int)+1);show (Cr _ _).length≤_;omega
theorem Yx {o:List Int} {p:Int}:∀ {n:Nat},p∈MP o n↔p∈o∨(1≤p∧p≤(n:Int))
 | 0=>by
  show p∈o↔_;constructor
  ·exact .inl
  ·rintro (h | h)
   ·exact h
   ·omega
 | n+1=>by
  show p∈Cr (MP o n) ((n:Int)+1)↔_;rw [Jc,Yx];constructor
  ·rintro ((h | h) | h)
   ·exact .inl h
   ·exact .inr (by omega)
   ·exact .inr (by omega)
  ·rintro (h | h)
   ·exact .inl (.inl h)
   ·by_cases e:p=(n:Int)+1
    ·exact .inr e
    ·exact .inl (.inr (by omega))
theorem QI {o:List Int} {F:Int→Ln} {i:Nat} (h:i<o.length):pvI (AF (AK o F) i 0)=o.getD i 0:=by
 unfold AF;rw [YN h];rfl
set_option maxHeartbeats 1000000 in
theorem Ck {N:Nat} {o:List Int} {F:Int→Ln} {p:Int} (ho:o.length≤1048576) (hN:2097152<N):Bz N [.rows (AK o F),.rows [[.int p]]]=some [.int (cond (Nat.blt (Af p o) o.length) (Af p o:Int) (-1))]:=by
 show Bx (std (Bl N) N) (xOf _)=_;simp only [Bx,lq9,std,xOf,PXb];refine Ae (dW (o:=o) (F:=F) (p:=p) (n:=o.length) (Nat.le_refl _) (k:=fun i=>[.int (i:Int)]) (R:=[.int 1]) (Q:=fun i=>[.int 0,.int (i:Int)]) ?_ ?_ N 0 (by omega) (Nat.zero_le _)) ?_
 ·intro self;simp only [PXb,PXc,PXn,AH,BP,BC,List.map_cons,List.map_nil,Leaf.pv]
 ·intro i self hi;simp only [PXb,PXc,PXn,AH,BP,DF (show i≤1099511627776 by omega),A5 hi,Ab hi,QI hi,List.map_cons,List.map_nil,Leaf.pv];rfl
 ·cases Nat.blt (Af p o) o.length<;>rfl
theorem nW {o : List Int} {F : Int → Ln} {p : Int} {N : Nat} (hN : o.length < N) {G : (List AX → Option (List PV)) → List PV → Option (List PV)} {k1 k2 : List PV → Option (List PV)} {g : Option (List PV)}
    (h0:∀ self,G self [.int (o.length:Int),.int p]=some [.int 1,.int p])
    (h1:∀ i self,i<o.length→G self [.int (i:Int),.int p]=cond (o.getD i 0==p) (some [.int 0,.int (i:Int),.int p]) (self [.int ((i+1:Nat):Int),.int p]))
    (hk:(k1 (cond (Nat.blt (Af p o) o.length) [.int 0,.int (Af p o:Int),.int p] [.int 1,.int p])).bind k2=g):((DW G N [.int 0,.int p]).bind k1).bind k2=g:=by
  have:=dW (o:=o) (F:=F) (p:=p) (n:=o.length) (Nat.le_refl _) (k:=fun i=>[.int (i:Int),.int p]) (R:=[.int 1,.int p]) (Q:=fun i=>[.int 0,.int (i:Int),.int p]) (G:=G) h0 h1 N 0 (by omega) (Nat.zero_le _);have e:DW G N [.int 0,.int p]=some (cond (Nat.blt (Af p o) o.length) [.int 0,.int (Af p o:Int),.int p] [.int 1,.int p]):=this;rw [e];exact hk
theorem qw {p:Int} {o:List Int} (h:p∉o):Af p (o++[p])=o.length:=by
 induction o with
 | nil=>show Af p [p]=0;unfold Af;rw [beq_self_eq_true];rfl
 | cons q r ih =>
  show Af p (q::(r++[p]))=_;unfold Af;have hq:(q==p)=false:=beq_eq_false_iff_ne.2 fun e=>h (e▸zzl)
  rw [hq];exact congrArg (·+1) (ih fun hm=>h (zzm _ hm))
def EF (B:Int→Bool) (p:Int):Ln:={ ln0 with batted:=B p }
theorem cM {o:List Int} {B:Int→Bool} {p:Int} {b:Bool} (hB:∀ q,q∉o→B q=false):ZQ (EF B) o p b=EF fun q=>B q||(q==p&&b):=funext fun q=>by
 have e:EF (fun q=>B q||(q==p&&b)) q={ ln0 with batted:=B q||(q==p&&b) }:=rfl;rw [e];unfold ZQ BV;cases hq:q==p with
 | true =>
  have e:=beq_iff_eq.1 hq;subst e;rw [Bool.true_and,cond_true];cases hb:Nat.blt (Af q o) o.length with
  | true=>rfl
  | false =>
   have:B q=false:=hB q fun hm=>by rw [J1.2 hm] at hb;cases hb
   rw [this];rfl
 | false =>
  rw [cond_false,Bool.false_and,Bool.or_false];rfl
theorem Tb {L:Rows} {p:Int}:∀ n,p∉BO L n→Bn L p n=false
 | 0,_=>rfl
 | n+1,h=>by
  unfold BO at h;unfold Bn;cases h2:(evR L n).kind==2 with
  | true =>
   rw [h2,cond_true] at h;have h3:¬ (p∈Cr (BO L n) (evR L n).player∨p=(evR L n).other):=fun hc=>h (Jc.2 hc)
   have h4:¬ (p∈BO L n∨p=(evR L n).player):=fun hc=>h3 (.inl (Jc.2 hc))
   rw [Tb n (fun hc=>h4 (.inl hc)),cond_true,beq_eq_false_iff_ne.2 (fun e=>h4 (.inr e)),beq_eq_false_iff_ne.2 (fun e=>h3 (.inr e))];rfl
  | false =>
   rw [h2,cond_false] at h;cases h5:(evR L n).kind==5 with
   | true =>
    rw [h5,cond_true] at h;have h4:¬ (p∈BO L n∨p=(evR L n).player):=fun hc=>h (Jc.2 hc)
    rw [Tb n (fun hc=>h4 (.inl hc)),beq_eq_false_iff_ne.2 (fun e=>h4 (.inr e))];rfl
   | false =>
    rw [h5,cond_false] at h;rw [Tb n h];rfl
def pN (L:Rows) (n:Nat):Rows:=AK (BO L n) (EF fun p=>Bn L p n)
def cG (L:Rows) (k:Nat):Rows:=AK (MP (BO L L.length) k) (EF fun p=>Bn L p L.length)
theorem iY {o:List Int} {B:Int→Bool} {p:Int} (hB:∀ q,q∉o→B q=false):ZQ (EF B) o p true=EF fun q=>B q||q==p:=by
 have e:(fun q:Int=>B q||(q==p&&true))=fun q=>B q||q==p:=funext fun q=>by rw [Bool.and_true]
 rw [cM hB,e]
def Q2 (F:Int→Ln) (o:List Int) (p:Int):Int→Ln:=cond (Nat.blt (Af p o) o.length) F (BV F p ln0)
theorem oW {o:List Int} {F:Int→Ln} {p:Int}:AK (Cr o p) (Q2 F o p)=cond (Nat.blt (Af p o) o.length) (AK o F) (AK o F++[lnR p ln0]):=by
 unfold Cr Q2;cases hb:Nat.blt (Af p o) o.length with
 | true=>rfl
 | false =>
  have hm:p∉o:=fun hm=>by rw [J1.2 hm] at hb;cases hb
  exact (oN o F p ln0 hm).symm
theorem bH (o:List Int) (p:Int):p∈Cr o p:=Jc.2 (.inr rfl)
theorem qd {o:List Int} {p:Int}:Af p (Cr o p)=cond (Nat.blt (Af p o) o.length) (Af p o) o.length:=by
 unfold Cr;cases hb:Nat.blt (Af p o) o.length with
 | true=>rfl
 | false =>
  have hm:p∉o:=fun hm=>by rw [J1.2 hm] at hb;cases hb
  exact qw hm
theorem Tw {o:List Int} {F:Int→Ln} {p:Int} {b:Bool}:BV (Q2 F o p) p { Q2 F o p p with batted:=(Q2 F o p p).batted||b }=ZQ F o p b:=by
 unfold Q2 ZQ;cases hb:Nat.blt (Af p o) o.length with
 | true=>rfl
 | false =>
  rw [cond_false,NT,HJ];rfl
theorem W1 {o : List Int} {F : Int → Ln} {p : Int} {N : Nat} (hN : o.length < N) (hl : o.length ≤ 100000) {G : (List AX → Option (List PV)) → List PV → Option (List PV)} {K3 : List PV → Option (List PV)} {g : Option (List PV)}
    (h0:∀ self,G self [.int (o.length:Int),.int p]=some [.int 1,.int p])
    (h1:∀ i self,i<o.length→G self [.int (i:Int),.int p]=cond (o.getD i 0==p) (some [.int 0,.int (i:Int),.int p]) (self [.int ((i+1:Nat):Int),.int p]))
    (hk:K3 [.int (Af p (Cr o p):Int),.rows (AK (Cr o p) (Q2 F o p))]=g) :
    ((DW G N [PV.int 0,PV.int p]).bind fun c1=>bif pvI (AA c1 0)==((0:Nat):Int) then some [PV.int (pvI (AA c1 1)),PV.int (pvI (AA c1 2))] else some [PV.int (-1),PV.int (pvI (AA c1 1))]).bind
      (fun c1=>(bif iLt (pvI (AA c1 0)) 0 then bif iSm (((AK o F++[[PV.int (pvI (AA c1 1)),PV.int 0,PV.int 0,PV.int 0,PV.int 0,PV.bool false,PV.int 0,PV.int 0,PV.int 0,PV.bool false]]).length:Nat):Int) 72 then some [PV.int (IntKind.i64.wrap ((((AK o F++[[PV.int (pvI (AA c1 1)),PV.int 0,PV.int 0,PV.int 0,PV.int 0,PV.bool false,PV.int 0,PV.int 0,PV.int 0,PV.bool false]]).length:Nat):Int) - 1)),PV.rows (AK o F++[[PV.int (pvI (AA c1 1)),PV.int 0,PV.int 0,PV.int 0,PV.int 0,PV.bool false,PV.int 0,PV.int 0,PV.int 0,PV.bool false]])] else none else some [PV.int (pvI (AA c1 0)),PV.rows (AK o F)]).bind K3)=g:=by
  refine nW (F:=F) hN h0 h1 ?_;rw [oW,qd] at hk;cases hb:Nat.blt (Af p o) o.length with
  | true =>
    simp only [hb,cond_true] at hk;have e:iLt (Af p o:Int) 0=false:=by simp only [iLt,decide_eq_false_iff_not];omega
    simp only [PXb,PXc,PXn,AH,e];exact hk
  | false =>
    simp only [hb,cond_false] at hk;have ll:(AK o F++[lnR p ln0]).length=o.length+1:=by rw [List.length_append,BP];rfl
    have e2:iSm (((AK o F++[lnR p ln0]).length:Nat):Int) 72=true:=by rw [ll];exact Iq (by omega) (by omega)
    have e3:IntKind.i64.wrap ((((AK o F++[lnR p ln0]).length:Nat):Int) - 1)=(o.length:Int):=by
      rw [ll,CE (by omega) (by omega)];omega
    have e4:iLt (-1) 0=true:=rfl;have e5:[PV.int p,PV.int 0,PV.int 0,PV.int 0,PV.int 0,PV.bool false,PV.int 0,PV.int 0,PV.int 0,PV.bool false]=lnR p ln0:=rfl;have q:((1:Int)==((0:Nat):Int))=false:=rfl;simp only [PXb,PXc,PXn,AH,q,e4];rw [e5,e2,e3];exact hk
theorem pT {o:List Int} {F:Int→Ln} {p:Int} (h:p∈o):pvB (AF (AK o F) (Af p o) 9)=(F p).batted:=by unfold AF;rw [XC h];rfl
theorem gh {o : List Int} {F : Int → Ln} {p : Int} {b : Bool} (hn : o.Nodup) (h : p ∈ o) :
    (AK o F).set (Af p o) (BB (AL (AK o F) (Af p o)) 9 [.bool (pvB (AF (AK o F) (Af p o) 9)||b)])=AK o (BV F p { F p with batted:=(F p).batted||b }):=by
  rw [pT h,E4 (v:={ F p with batted:=(F p).batted||b }) hn h rfl]
theorem mS {o : List Int} {F : Int → Ln} {p : Int} (hn : o.Nodup) (h : p ∈ o) :
    (AK o F).set (Af p o) (BB (AL (AK o F) (Af p o)) 9 [.bool (pvB (AF (AK o F) (Af p o) 9))])=AK o (BV F p { F p with batted:=(F p).batted||false }):=by
  have:=gh (b:=false) hn h (F:=F);rw [Bool.or_false] at this;exact this
set_option maxHeartbeats 8000000 in
theorem Z2 {N:Nat} {r1 r2 r3 r4 r5 r6 r7 r9 r10 r11 r12:Int} {r8:Bool} {r0:ByteArray} {r13:Rows} {L:Rows} (hN:2097152<N) (hL:L.length≤4000) (h0:0≤r1) (h1:r1≤100):Is N [.str r0,.int r1,.int r2,.int r3,.int r4,.int r5,.int r6,.int r7,.bool r8,.int r9,.int r10,.int r11,.int r12,.rows r13,.rows L]=some [.rows (cG L r1.toNat)]:=by
 show Id (std (PR N) N) (xOf _)=_;simp only [Id,lq9,std,xOf,PXb];refine Ae (C8 (len:=L.length) (fun i=>[.int (i:Int),.rows (pN L i)]) [.rows (pN L L.length)] ?_ ?_ N (by omega)) ?_
 ·intro self;simp only [PXb,PXc,PXn,AH,BC]
 ·intro i self hi;have on:=Js L i;have ol:=UY L i;have wi:IntKind.i64.wrap ((i:Int)+1)=((i+1:Nat):Int):=DF (show i≤1099511627776 by omega);simp only [PXb,PXc,PXn,AH,A5 hi,Ab hi,pN];have kk:(evR L i).kind=pvI (AF L i 0):=rfl;have kp:(evR L i).player=pvI (AF L i 2):=rfl;have ko:(evR L i).other=pvI (AF L i 3):=rfl;have ky:(evR L i).yes=pvB (AF L i 4):=rfl;have eo:BO L (i+1)=cond ((evR L i).kind==2) (Cr (Cr (BO L i) (evR L i).player) (evR L i).other) (cond ((evR L i).kind==5) (Cr (BO L i) (evR L i).player) (BO L i)):=rfl;rw [eo,kk];have no:∀ q,q∉BO L i→Bn L q i=false:=fun q hq=>Tb i hq
  cases h2:pvI (AF L i 0)==2 with
  | true =>
   rw [cond_true,cond_true,← kp,← ko];refine W1 (by omega) (by omega) ?_ ?_ ?_
   ·intro self;simp only [PXb,PXc,PXn,AH,BP,BC]
   ·intro j self hj;simp only [PXb,PXc,PXn,AH,BP,DF (show j≤1099511627776 by omega),A5 hj,Ab hj,QI hj]
   ·have i1:=bH (BO L i) (evR L i).player;have n1:=HK (p:=(evR L i).player) on;have l1:=Tf (BO L i) (evR L i).player;simp only [PXb,PXc,PXn,AH,BP,Ab (Eo i1).1,Int.toNat_natCast];rw [E4 (v:={ Q2 (EF fun p=>Bn L p i) (BO L i) (evR L i).player (evR L i).player with batted:=true }) n1 i1 rfl];have a1:BV (Q2 (EF fun p=>Bn L p i) (BO L i) (evR L i).player) (evR L i).player { Q2 (EF fun p=>Bn L p i) (BO L i) (evR L i).player (evR L i).player with batted:=true }=EF fun q=>Bn L q i||q==(evR L i).player:=by
     have:=Tw (o:=BO L i) (F:=EF fun p=>Bn L p i) (p:=(evR L i).player) (b:=true);rw [Bool.or_true,iY no] at this;exact this
    rw [a1];refine W1 (by omega) (by omega) ?_ ?_ ?_
    ·intro self;simp only [PXb,PXc,PXn,AH,BP,BC]
    ·intro j self hj;simp only [PXb,PXc,PXn,AH,BP,DF (show j≤1099511627776 by omega),A5 hj,Ab hj,QI hj]
    ·have i2:=bH (Cr (BO L i) (evR L i).player) (evR L i).other;have n2:=HK (p:=(evR L i).other) n1;simp only [PXb,PXc,PXn,AH,BP,Ab (Eo i2).1,Int.toNat_natCast];rw [E4 (v:={ Q2 (EF fun q=>Bn L q i||q==(evR L i).player) (Cr (BO L i) (evR L i).player) (evR L i).other (evR L i).other with batted:=true }) n2 i2 rfl];have no2:∀ q,q∉Cr (BO L i) (evR L i).player→(Bn L q i||q==(evR L i).player)=false:=fun q hq=>by
      have hq2:¬ (q∈BO L i∨q=(evR L i).player):=fun hc=>hq (Jc.2 hc)
      rw [no q (fun hc=>hq2 (.inl hc)),beq_eq_false_iff_ne.2 (fun e=>hq2 (.inr e))];rfl
     have a2:=Tw (o:=Cr (BO L i) (evR L i).player) (F:=EF fun q=>Bn L q i||q==(evR L i).player) (p:=(evR L i).other) (b:=true);rw [Bool.or_true,iY no2] at a2;rw [a2,wi];have a3:(fun q=>(Bn L q i||q==(evR L i).player)||q==(evR L i).other)=fun q=>Bn L q (i+1):=funext fun q=>by
      show _=(Bn L q i||cond ((evR L i).kind==2) (q==(evR L i).player||q==(evR L i).other) _);rw [show ((evR L i).kind==2)=true from h2,cond_true,Bool.or_assoc]
     rw [a3]
  | false =>
   cases h5:pvI (AF L i 0)==5 with
   | true =>
    rw [cond_false,cond_true,cond_false,cond_true,← kp];refine W1 (by omega) (by omega) ?_ ?_ ?_
    ·intro self;simp only [PXb,PXc,PXn,AH,BP,BC]
    ·intro j self hj;simp only [PXb,PXc,PXn,AH,BP,DF (show j≤1099511627776 by omega),A5 hj,Ab hj,QI hj]
    ·have i1:=bH (BO L i) (evR L i).player;have n1:=HK (p:=(evR L i).player) on;simp only [PXb,PXc,PXn,AH,BP,Ab (Eo i1).1,Int.toNat_natCast];rw [gh n1 i1,Tw,cM no,wi,← ky];have a3:(fun q=>Bn L q i||(q==(evR L i).player && !(evR L i).yes))=fun q=>Bn L q (i+1):=funext fun q=>by
      show _=(Bn L q i||cond ((evR L i).kind==2) _ (cond ((evR L i).kind==5) (q==(evR L i).player && !(evR L i).yes) false));rw [show ((evR L i).kind==2)=false from h2,show ((evR L i).kind==5)=true from h5];rfl
     rw [a3]
   | false =>
    rw [cond_false,cond_false,cond_false,cond_false,wi];have a3:(fun q=>Bn L q i)=fun q=>Bn L q (i+1):=funext fun q=>by
     show _=(Bn L q i||cond ((evR L i).kind==2) _ (cond ((evR L i).kind==5) _ false));rw [show ((evR L i).kind==2)=false from h2,show ((evR L i).kind==5)=false from h5];exact (Bool.or_false _).symm
    rw [a3]
 ·have on:=Js L L.length;have ol:=UY L L.length;have no:∀ q,q∉BO L L.length→Bn L q L.length=false:=fun q hq=>Tb L.length hq
  obtain ⟨k,hk⟩:∃ k:Nat,r1=(k:Int):=⟨r1.toNat,by omega⟩;subst hk;rw [Int.toNat_natCast];simp only [PXb,PXc,PXn,AH];refine Ae (C8 (len:=k) (fun j=>[.int ((j:Int)+1),.rows (cG L j)]) [.rows (cG L k)] ?_ ?_ N (by omega)) rfl
  ·intro self;have e:iLe ((k:Int)+1) (k:Int)=false:=by simp only [iLe,decide_eq_false_iff_not];omega
   simp only [PXb,PXc,PXn,AH,e]
  ·intro j self hj;have e:iLe ((j:Int)+1) (k:Int)=true:=by simp only [iLe,decide_eq_true_eq];omega
   have jn:=MS on j;have jl:=Y9 (BO L L.length) j;have no3:∀ q,q∉MP (BO L L.length) j→Bn L q L.length=false:=fun q hq=>no q fun hc=>hq (Yx.2 (.inl hc))
   have eo:cG L (j+1)=AK (Cr (MP (BO L L.length) j) ((j:Int)+1)) (EF fun p=>Bn L p L.length):=rfl;rw [eo];simp only [PXb,PXc,PXn,AH,e,cG];refine W1 (by omega) (by omega) ?_ ?_ ?_
   ·intro self;simp only [PXb,PXc,PXn,AH,BP,BC]
   ·intro i self hi;simp only [PXb,PXc,PXn,AH,BP,DF (show i≤1099511627776 by omega),A5 hi,Ab hi,QI hi]
   ·have i1:=bH (MP (BO L L.length) j) ((j:Int)+1);have n1:=HK (p:=(j:Int)+1) jn;have wj:IntKind.i64.wrap ((j:Int)+1+1)=((j+1:Nat):Int)+1:=by rw [CE (by omega) (by omega)];omega
    have a3:(fun q=>Bn L q L.length||(q==(j:Int)+1&&false))=fun q=>Bn L q L.length:=funext fun q=>by rw [Bool.and_false,Bool.or_false]
    simp only [PXb,PXc,PXn,AH,BP,Ab (Eo i1).1,Int.toNat_natCast];rw [mS n1 i1,Tw,cM no3,a3,wj]
structure Up (x y:Sco):Prop where
 side:y.side=x.side
 runs:x.runs≤y.runs
 wk:x.wickets≤y.wickets
 balls:x.balls≤y.balls
theorem Up.refl (x:Sco):Up x x:=⟨rfl,Int.le_refl _,Int.le_refl _,Int.le_refl _⟩
theorem YB {r:Rul} {L:Rows} {n:Nat} (h:Bd r L=0) (hn:n≤L.length):Bd r (AN L (n:Int))=0∧(D8 r (AN L (n:Int))).1=stM L n 0 (AO r).1:=by
 obtain ⟨h1,h2,h3,h4,h5⟩:=DH h;have hc:(BD r==0)=true:=by rw [h2];rfl
 have an:=nn L.length n 0 _ hn h4;have rp:=jP hc hn an;refine ⟨?_,by rw [rp]⟩;unfold Bd;have:iLt 4000 (n:Int)=false:=by simp only [iLt,decide_eq_false_iff_not];omega
 rw [hc,rp,bA hn,this];rfl
def CJ (L:Rows) (k:Nat):Rows:=List.drop (A6 L k) (List.take (A6 L (k+1)) L)
theorem YR {L:Rows} (hL:L.length≤1048576) {k:Nat} (hk:k<opn L L.length):(CJ L k).length=A6 L (k+1) - A6 L k:=qv (seg hL hk).le
def Qc (r:Rul) (L:Rows) (k:Int):Rows×Int:=cond (!(Bd r L==0)) ([],Bd r L) (cond (iLt k 0||iLe (opn L L.length:Int) k) ([],2) (fil k (B6 r L),0))
def ro (x:List PV):Cre:=⟨pvI (AA x 20),pvI (AA x 21),pvI (AA x 22),pvI (AA x 23),pvI (AA x 24),pvI (AA x 25),pvB (AA x 26),pvB (AA x 27),pvB (AA x 28),pvB (AA x 29)⟩
theorem cg {p:Int} {n:Nat}:inR p n=true↔1≤p∧p≤(n:Int):=by
 unfold inR;simp only [iLe,zzj,decide_eq_true_eq]
theorem rM {s:Inn} {p q:Int} (h:((N2 s p q).2==0)=true):inR p s.batters.length=true∧inR q s.batters.length=true:=by
 unfold N2 at h;cases hb:Cd s.batters with
 | true=>rw [hb] at h;cases h
 | false =>
  cases hp:inR p s.batters.length with
  | false=>rw [hb,hp] at h;cases h
  | true =>
   cases hq:inR q s.batters.length with
   | false=>rw [hb,hp,hq] at h;cases h
   | true=>exact ⟨rfl,rfl⟩
structure EvIn (r:Rul) (e:Ev):Prop where
 op:e.kind=2→(1≤e.player∧e.player≤r.side)∧(1≤e.other∧e.other≤r.side)
 en:e.kind=5→1≤e.player∧e.player≤r.side
 re:e.kind=6→1≤e.player∧e.player≤r.side
theorem lw {r:Rul} {s:Inn} {e:Ev} (hl:(s.batters.length:Int)=r.side) (h:((Be r s e).2==0)=true):EvIn r e:=by
 unfold Be at h;refine ⟨fun k=>?_,fun k=>?_,fun k=>?_⟩
 ·rw [k] at h;have h:((N2 s e.player e.other).2==0)=true:=h;obtain ⟨a,b⟩:=rM h;rw [cg,hl] at a b;exact ⟨a,b⟩
 ·rw [k] at h;have h:((cond e.yes (E7 s e.player) (KX s e.player)).2==0)=true:=h;have m:(JG s e.player==0)=true:=by
   cases hm:JG s e.player==0 with
   | true=>rfl
   | false =>
    cases hy:e.yes with
    | true=>rw [hy] at h;unfold E7 at h;rw [hm] at h;rw [show (JG s e.player==0)=true from h] at hm;cases hm
    | false=>rw [hy] at h;unfold KX at h;rw [hm] at h;rw [show (JG s e.player==0)=true from h] at hm;cases hm
  have:=WL m;rw [cg,hl] at this;exact this
 ·rw [k] at h;have h:((FX s e.player e.yes).2==0)=true:=h;have:=(nE h).1;rw [cg,hl] at this;exact this
theorem kS {r:Rul} {s:Inn} {e:Ev} (h:((Ao r s e).2==0)=true):EvIn r e:=by
 obtain ⟨hv,he,hn,hw,hp,hs⟩:=P4 h;exact lw (JA.1 hv).lb hp
theorem rI {r:Rul} {e:Ev} (h2:(e.kind==2)=false) (h5:(e.kind==5)=false) (h6:(e.kind==6)=false):EvIn r e where
 op k:=by rw [k] at h2;cases h2
 en k:=by rw [k] at h5;cases h5
 re k:=by rw [k] at h6;cases h6
theorem ZB {m:Mat} {b:Bool} {x:Mat×Int} (h:((cond (!b) (m,1) x).2==0)=true):b=true∧(x.2==0)=true:=by
 cases b with
 | false=>cases h
 | true=>exact ⟨rfl,h⟩
theorem ij {m:Mat} {t:Int} {x:Mat×Int} (h:((cond (!(t==0)) (m,t) x).2==0)=true):(t==0)=true:=by
 cases ht:t==0 with
 | true=>rfl
 | false =>
  rw [ht] at h;rw [show (t==0)=true from h] at ht;cases ht
theorem rJ {m:Mat} {e:Ev} (h:((D1 m e).2==0)=true):EvIn m.rules e:=by
 unfold D1 at h;exact kS (ij h)
theorem pS {m:Mat} {e:Ev} (h:((DL m e).2==0)=true):EvIn m.rules e:=by
 obtain ⟨hv,he,h5,ha,hs⟩:=Tz h;unfold HY at ha;have go:∀ k,e.kind=k→(k==1)=false→(k==2)=false→(k==12)=false→(k==16)=false→EvIn m.rules e:=fun k hk a b c d=>by
  rw [hk,a,b,c,d] at ha;have ha:((cond (!(m.stage==3)) (m,1) (D1 m e)).2==0)=true:=ha;exact rJ (ZB ha).2
 cases k2:e.kind==2 with
 | true =>
  have k:=beq_iff_eq.1 k2;rw [k] at ha;have ha:((cond (!(m.stage==2)) (m,1) (T1 m e)).2==0)=true:=ha;have ha:=(ZB ha).2;unfold T1 at ha;exact kS (ij (ZB ha).2)
 | false =>
  cases k5:e.kind==5 with
  | true=>exact go 5 (beq_iff_eq.1 k5) rfl rfl rfl rfl
  | false =>
   cases k6:e.kind==6 with
   | true=>exact go 6 (beq_iff_eq.1 k6) rfl rfl rfl rfl
   | false=>exact rI k2 k5 k6
theorem qJ {r:Rul} {L:Rows} (hc:Bd r L=0) {a:Nat} (ha:a<L.length):EvIn r (evR L a):=by
 obtain ⟨h1,h2,h3,h4,h5⟩:=DH hc;obtain ⟨li,so,_⟩:=NO h1 h4 a (by omega);have a0:=RK L.length 0 _ h4 a ha;rw [Nat.zero_add] at a0;have q:=(WY a0).1;rw [q] at a0;have:=pS a0;rw [so.rules] at this;exact this
def Cy (x:List PV):Int:=cond (pvI (AA x 14)==0) 0 (cond (pvI (AA x 15)==1) (pvI (AA x 5)) (cond (pvI (AA x 15)==2) (pvI (AA x 6)) 0))
def pA (x:List PV):Bool:=pvI (AA x 9)==1&&pvI (AA x 10)==0
def Qr (x:List PV) (l:Ln):Ln:={ l with runs:=IntKind.i64.wrap (l.runs+pvI (AA x 20)),balls:=cond (pvB (AA x 27)) (IntKind.i64.wrap (l.balls+1)) l.balls,fours:=cond (pA x&&pvI (AA x 12)==4) (IntKind.i64.wrap (l.fours+1)) l.fours,sixes:=cond (pA x&&pvI (AA x 12)==6) (IntKind.i64.wrap (l.sixes+1)) l.sixes }
def sq (x:List PV) (l:Ln):Ln:={ l with out:=true,how:=pvI (AA x 14),fielder:=pvI (AA x 16),bowler:=cond (pvB (AA x 28)) (pvI (AA x 4)) l.bowler }
def II (x:List PV) (p:Int) (l:Ln):Ln:=cond (Cy x==p) (sq x (cond (pvI (AA x 5)==p) (Qr x l) l)) (cond (pvI (AA x 5)==p) (Qr x l) l)
def dLn (k:Int) (D:Rows) (F:Int→Ln):Nat→Int→Ln
 | 0,p=>F p
 | n+1,p=>cond (pvI (AF D n 1)==k) (II (AL D n) p (dLn k D F n p)) (dLn k D F n p)
def evL (e:Ev) (p:Int) (l:Ln):Ln:=cond (e.kind==5&&e.yes) (cond (e.player==p) { l with out:=true,how:=9 } l) (cond (e.kind==6 && !e.yes) (cond (e.player==p) { l with out:=true,how:=10 } l) l)
def eLn (E:Rows) (F:Int→Ln):Nat→Int→Ln
 | 0,p=>F p
 | n+1,p=>evL (evR E n) p (eLn E F n p)
def Ky (r:Rul) (L:Rows) (k:Int):Rows×Int:=cond ((Qc r L k).2==0)
  (AK (MP (BO (CJ L k.toNat) (CJ L k.toNat).length) r.side.toNat) (eLn (CJ L k.toNat) (dLn k (B6 r L) (EF fun p=>Bn (CJ L k.toNat) p (CJ L k.toNat).length) (B6 r L).length) (CJ L k.toNat).length),0) ([],(Qc r L k).2)
theorem Ww {N:Nat} {a:Int} {b:Int} {c:Int} {d:Int} {f:Int} {x:Bool} {h:Int} {v:Int} {i:Int} {j:Int} {y:Bool} {g:Int} {p:Int} {q:Int}  : Fw N [.int a,.int b,.int c,.int d,.int f,.bool x,.int h,.int v,.int i,.int j,.bool y,.int g,.int p,.int q]=some [.int (cond (h==0) 0 (cond (v==1) p (cond (v==2) q 0)))]:=by
 show Fd (std (Ml N) N) (xOf _)=_;simp only [Fd,lq9,std,xOf,PXb];cases h==0<;>cases v==1<;>cases v==2<;>rfl
theorem qo {r:Rul} {L:Rows} (hc:Bd r L=0) {a:Nat} (ha:a<L.length) (hk:((evR L a).kind==4)=true) (t:Mat):Cy (Dz (a:Int) (stM L a 0 (AO r).1) t (evR L a).ball)=0∨(1≤Cy (Dz (a:Int) (stM L a 0 (AO r).1) t (evR L a).ball)∧Cy (Dz (a:Int) (stM L a 0 (AO r).1) t (evR L a).ball)≤r.side):=by
 have bf:=iB hc ha hk;have st:=bf.ok.st;have ot:=bf.ok.ot;have e:Cy (Dz (a:Int) (stM L a 0 (AO r).1) t (evR L a).ball)=cond ((evR L a).ball.how==0) 0 (cond ((evR L a).ball.victim==1) (AR (stM L a 0 (AO r).1)).striker (cond ((evR L a).ball.victim==2) (AR (stM L a 0 (AO r).1)).other 0)):=rfl;rw [e];cases (evR L a).ball.how==0 with
 | true=>exact .inl rfl
 | false =>
  cases (evR L a).ball.victim==1 with
  | true=>show (AR (stM L a 0 (AO r).1)).striker=0∨(1≤(AR (stM L a 0 (AO r).1)).striker∧(AR (stM L a 0 (AO r).1)).striker≤r.side);omega
  | false =>
   cases (evR L a).ball.victim==2 with
   | true=>show (AR (stM L a 0 (AO r).1)).other=0∨(1≤(AR (stM L a 0 (AO r).1)).other∧(AR (stM L a 0 (AO r).1)).other≤r.side);omega
   | false=>exact .inl rfl
theorem kY {r:Rul} {L:Rows} (hc:Bd r L=0):∀ n,n≤L.length→∀ x,x∈Po L n 0 (AO r).1 []→RowF r x∧(Cy x=0∨(1≤Cy x∧Cy x≤r.side))
 | 0,_,x,hx=>absurd hx List.not_mem_nil
 | n+1,hn,x,hx=>by
  have ih:=kY hc n (by omega);rw [Ua,Nat.zero_add] at hx;cases hk:(evR L n).kind==4 with
  | false =>
   rw [hk,cond_false] at hx;exact ih x hx
  | true =>
   rw [hk,cond_true] at hx
   rcases List.mem_append.1 hx with hx | hx
   ·exact ih x hx
   ·rw [List.mem_singleton.1 hx];exact ⟨tE hc (show n<L.length by omega) hk _,qo hc (show n<L.length by omega) hk _⟩
theorem dN {r:Rul} {L:Rows} (hc:Bd r L=0):B6 r L=Po L L.length 0 (AO r).1 []:=by
 obtain ⟨h1,h2,h3,h4,h5⟩:=DH hc;unfold B6;rw [h1];obtain ⟨j,j1,j2,j3,j4⟩:=UL L L.length 0 (AO r).1;show K1 L L.length 0 (AO r).1 []=_;rw [j3 []]
 rcases j4 with ⟨j5,_⟩ | ⟨j5,j6,j7⟩
 ·rw [j5]
 ·have hh:=RK L.length 0 _ h4 j j5;rw [hh] at j6;cases j6
theorem o7 {D:Rows} {j:Nat} (h:j<D.length):AL D j∈D:=by
 unfold AL;rw [zzk,zzn h];exact List.getElem_mem h
theorem nK {r:Rul} {L:Rows} (hc:Bd r L=0) {j:Nat} (hj:j<(B6 r L).length):RowF r (AL (B6 r L) j)∧(Cy (AL (B6 r L) j)=0∨(1≤Cy (AL (B6 r L) j)∧Cy (AL (B6 r L) j)≤r.side)):=by
 have:=o7 hj;rw [dN hc] at this;have e:=dN hc;rw [e] at hj ⊢;exact kY hc L.length (Nat.le_refl _) _ this
theorem jk {r:Rul} {L:Rows} {k:Nat} (hc:Bd r L=0) (hk:k<opn L L.length):∀ n,n≤(CJ L k).length→∀ p,p∈BO (CJ L k) n→1≤p∧p≤r.side
 | 0,_,p,hp=>absurd hp List.not_mem_nil
 | n+1,hn,p,hp=>by
  have l4:=(DH hc).2.2.1;have ih:=jk hc hk n (by omega);have sl:=YR (L:=L) (by omega) hk;have sg:=seg (L:=L) (by omega) hk;have ei:evR (CJ L k) n=evR L (A6 L k+n):=Zx L n (by omega);have hi:=qJ hc (a:=A6 L k+n) (by have:=sg.le;omega);unfold BO at hp;rw [ei] at hp;cases h2:(evR L (A6 L k+n)).kind==2 with
  | true =>
   rw [h2,cond_true] at hp;have o:=hi.op (beq_iff_eq.1 h2)
   rcases Jc.1 hp with hp | rfl
   ·rcases Jc.1 hp with hp | rfl
    ·exact ih p hp
    ·exact o.1
   ·exact o.2
  | false =>
   rw [h2,cond_false] at hp;cases h5:(evR L (A6 L k+n)).kind==5 with
   | true =>
    rw [h5,cond_true] at hp
    rcases Jc.1 hp with hp | rfl
    ·exact ih p hp
    ·exact hi.en (beq_iff_eq.1 h5)
   | false =>
    rw [h5,cond_false] at hp;exact ih p hp
theorem XA {r:Rul} {L:Rows} {k:Nat} (hc:Bd r L=0) (hk:k<opn L L.length) (h0:0≤r.side) {p:Int}:p∈MP (BO (CJ L k) (CJ L k).length) r.side.toNat↔1≤p∧p≤r.side:=by
 rw [Yx];constructor
 ·rintro (h | h)
  ·exact jk hc hk _ (Nat.le_refl _) p h
  ·omega
 ·intro h;exact .inr (by omega)
theorem Zz {o : List Int} {p : Int} (hn : o.Nodup) (h : p ∈ o) :
    (∀ (F:Int→Ln) (a:Int),(AK o F).set (Af p o) (BB (AL (AK o F) (Af p o)) 1 [.int a])=AK o (BV F p { F p with runs:=a })) ∧
    (∀ (F:Int→Ln) (a:Int),(AK o F).set (Af p o) (BB (AL (AK o F) (Af p o)) 2 [.int a])=AK o (BV F p { F p with balls:=a })) ∧
    (∀ (F:Int→Ln) (a:Int),(AK o F).set (Af p o) (BB (AL (AK o F) (Af p o)) 3 [.int a])=AK o (BV F p { F p with fours:=a })) ∧
    (∀ (F:Int→Ln) (a:Int),(AK o F).set (Af p o) (BB (AL (AK o F) (Af p o)) 4 [.int a])=AK o (BV F p { F p with sixes:=a })) ∧
    (∀ (F:Int→Ln) (a:Bool),(AK o F).set (Af p o) (BB (AL (AK o F) (Af p o)) 5 [.bool a])=AK o (BV F p { F p with out:=a })) ∧
    (∀ (F:Int→Ln) (a:Int),(AK o F).set (Af p o) (BB (AL (AK o F) (Af p o)) 6 [.int a])=AK o (BV F p { F p with how:=a })) ∧
    (∀ (F:Int→Ln) (a:Int),(AK o F).set (Af p o) (BB (AL (AK o F) (Af p o)) 7 [.int a])=AK o (BV F p { F p with bowler:=a })) ∧
    (∀ (F:Int→Ln) (a:Int),(AK o F).set (Af p o) (BB (AL (AK o F) (Af p o)) 8 [.int a])=AK o (BV F p { F p with fielder:=a })) ∧
    (∀ (F:Int→Ln),pvI (AF (AK o F) (Af p o) 1)=(F p).runs)∧(∀ (F:Int→Ln),pvI (AF (AK o F) (Af p o) 2)=(F p).balls) ∧
    (∀ (F:Int→Ln),pvI (AF (AK o F) (Af p o) 3)=(F p).fours)∧(∀ (F:Int→Ln),pvI (AF (AK o F) (Af p o) 4)=(F p).sixes):=by
  refine ⟨fun F a=>E4 hn h rfl,fun F a=>E4 hn h rfl,fun F a=>E4 hn h rfl,fun F a=>E4 hn h rfl,fun F a=>E4 hn h rfl,fun F a=>E4 hn h rfl,fun F a=>E4 hn h rfl,fun F a=>E4 hn h rfl,fun F=>?_,fun F=>?_,fun F=>?_,fun F=>?_⟩ <;>
  · unfold AF;rw [XC h];rfl
set_option maxHeartbeats 8000000 in
theorem Gv {N:Nat} {r1 r2 r3 r4 r5 r6 r7 r9 r10 r11 r12:Int} {r8:Bool} {r0:ByteArray} {r13:Rows} {L:Rows} {k:Int} (hN:2097152<N) (hs:r0.size≤1048576) (h13:r13.length≤1048576) (hL:L.length≤1000000):CQ N [.str r0,.int r1,.int r2,.int r3,.int r4,.int r5,.int r6,.int r7,.bool r8,.int r9,.int r10,.int r11,.int r12,.rows r13,.rows L,.int k]=some [.rows (Ky (⟨r0,r1,r2,r3,r4,r5,r6,r7,r8,r9,r10,r11,r12,r13⟩:Rul) L k).1,.int (Ky (⟨r0,r1,r2,r3,r4,r5,r6,r7,r8,r9,r10,r11,r12,r13⟩:Rul) L k).2]:=by
 show G1 (std (BN N) N) (xOf _)=_;generalize hres:(some [.rows (Ky (⟨r0,r1,r2,r3,r4,r5,r6,r7,r8,r9,r10,r11,r12,r13⟩:Rul) L k).1,.int (Ky (⟨r0,r1,r2,r3,r4,r5,r6,r7,r8,r9,r10,r11,r12,r13⟩:Rul) L k).2]:Option (List PV))=RR;have hl:L.length≤1048576:=by omega
 simp only [G1,OY,Qt,Nm,Hn,RP,Lo,lq9,std,xOf,PXb,jU hN hs h13 hl,Tm hN hl,aO hN hs h13 hl,fW,PXc];subst hres;simp only [Ky,Qc];cases hc:Bd (⟨r0,r1,r2,r3,r4,r5,r6,r7,r8,r9,r10,r11,r12,r13⟩:Rul) L==0 with
 | false=>simp only [PXb,Bool.not_false,hc]
 | true =>
  have pl:=lh (⟨r0,r1,r2,r3,r4,r5,r6,r7,r8,r9,r10,r11,r12,r13⟩:Rul) L;have c0:=beq_iff_eq.1 hc;simp only [PXb,Bool.not_true,PXp,Tc];cases hb:iLt k 0||iLe (opn L L.length:Int) k with
  | true=>rfl
  | false =>
   simp only [Bool.or_eq_false_iff,iLt,iLe,decide_eq_false_iff_not] at hb;obtain ⟨K,rfl⟩:∃ K:Nat,k=(K:Int):=⟨k.toNat,by omega⟩;have hk:K<opn L L.length:=by omega
   have l4:=(DH c0).2.2.1;have sg:=seg hl hk;have sgl:=sg.lt;have sge:=sg.le;have sl:=YR hl hk;have rk:=DV (DH c0).2.1;have rs:2≤r1∧r1≤11:=rk.side;have rg:iRg (A6 L K:Int) (A6 L (K+1):Int) (L.length:Int)=true:=by simp only [iRg,decide_eq_true_eq];omega
   have om:=fun p=>XA (p:=p) c0 hk (show 0≤r1 by omega)
   have pin:=fun j (hj:j<(B6 (⟨r0,r1,r2,r3,r4,r5,r6,r7,r8,r9,r10,r11,r12,r13⟩:Rul) L).length)=>nK c0 hj
   have ein:=fun j (hj:j<(CJ L K).length)=>qJ c0 (a:=A6 L K+j) (by omega)
   have esub:=fun j (hj:j<(CJ L K).length)=>Zx L (a:=A6 L K) (b:=A6 L (K+1)) j (by omega)
   change ∀ j,j<(CJ L K).length→evR (CJ L K) j=_ at esub;have on:=MS (Js (CJ L K) (CJ L K).length) r1.toNat;have ol:=Y9 (BO (CJ L K) (CJ L K).length) r1.toNat;have oe:=UY (CJ L K) (CJ L K).length;simp only [PXb,Ab hk,sg.x0,sg.x1,rg,Int.toNat_natCast,beq_self_eq_true];have ex:List.drop (A6 L K) (List.take (A6 L (K+1)) L)=CJ L K:=rfl;rw [ex];have einE:=fun j (hj:j<(CJ L K).length)=>(esub j hj)▸(ein j hj)
   clear ein esub ex rg sg;generalize hE:CJ L K=E at *
   generalize B6 (⟨r0,r1,r2,r3,r4,r5,r6,r7,r8,r9,r10,r11,r12,r13⟩:Rul) L=D at *
   have e1:E.length≤4000:=by omega
   have e2:=Z2 (r0:=r0) (r1:=r1) (r2:=r2) (r3:=r3) (r4:=r4) (r5:=r5) (r6:=r6) (r7:=r7) (r8:=r8) (r9:=r9) (r10:=r10) (r11:=r11) (r12:=r12) (r13:=r13) hN e1 (by omega) (by omega);refine Gm e2 ?_;simp only [PXb,cG];generalize hO:MP (BO E E.length) r1.toNat=o at *
   refine Ae (C8 (len:=D.length) (fun i=>[.int (i:Int),.rows (AK o (dLn K D (EF fun p=>Bn E p E.length) i))]) [.rows (AK o (dLn K D (EF fun p=>Bn E p E.length) D.length))] ?_ ?_ N (by omega)) ?_
   ·intro self;simp only [PXb,PXc,PXn,AH,BC]
   ·intro i self hi;have wi:IntKind.i64.wrap ((i:Int)+1)=((i+1:Nat):Int):=DF (show i≤1099511627776 by omega);obtain ⟨rf,vf⟩:=pin i hi;have st:=rf.striker;have so:pvI (AF D i 5)∈o:=(om _).2 st;have ix:=Ck (o:=o) (F:=dLn K D (EF fun p=>Bn E p E.length) i) (p:=pvI (AF D i 5)) (by omega) hN;rw [J1.2 so,cond_true] at ix;generalize hF:dLn (K:Int) D (EF fun p=>Bn E p E.length)=G at *
    have nx:G (i+1)=fun p=>cond (pvI (AF D i 1)==(K:Int)) (II (AL D i) p (G i p)) (G i p):=by rw [← hF];rfl
    simp only [PXb,A5 hi,Ab hi,wi];cases hk1:pvI (AF D i 1)==(K:Int) with
    | false =>
     have:G (i+1)=G i:=by rw [nx,hk1];rfl
     rw [this];rfl
    | true =>
     rw [Bool.not_true,cond_false];refine Gm ix ?_;simp only [PXb,BP,Ab (Eo so).1,Int.toNat_natCast];have cs:=Zz on so;generalize hp:pvI (AF D i 5)=p at *
     generalize hx:AL D i=x at *
     have xx:∀ c,AF D i c=AA x c:=fun c=>by unfold AF;rw [hx]
     simp only [xx] at hp ⊢;have b46:(pvI (AA x 12)==4)=true→(pvI (AA x 12)==6)=false:=fun h=>by rw [beq_iff_eq.1 h];rfl
     refine Gm (v:=[.rows (AK o (BV (G i) p { G i p with runs:=IntKind.i64.wrap ((G i p).runs+pvI (AA x 20)),balls:=cond (pvB (AA x 27)) (IntKind.i64.wrap ((G i p).balls+1)) (G i p).balls }))]) ?_ ?_
     ·cases pvB (AA x 27)<;>simp only [cond_true,cond_false,cs,HJ,NT]
     simp only [PXb];refine Gm (v:=[.rows (AK o (BV (G i) p (Qr x (G i p))))]) ?_ ?_
     ·unfold Qr pA;cases pvI (AA x 9)==1<;>cases pvI (AA x 10)==0<;>cases h4:pvI (AA x 12)==4<;>cases h6:pvI (AA x 12)==6 <;>
       simp only [Bool.and_true,Bool.and_false,Bool.true_and,Bool.false_and,cond_true,cond_false,cs,HJ,NT]
      rw [b46 h4] at h6;cases h6
     simp only [PXb];have vr:Cy x=cond (pvI (AA x 14)==0) 0 (cond (pvI (AA x 15)==1) p (cond (pvI (AA x 15)==2) (pvI (AA x 6)) 0)):=by unfold Cy;rw [hp]
     refine Gm (v:=[.int (Cy x)]) (by rw [vr];exact Ww) ?_;simp only [PXb];have fin:∀ F:Int→Ln,(∀ q,1≤q→F q=II x q (G i q))→AK o F=AK o (G (i+1)):=fun F hF=>kl fun q hq=>by
      rw [nx,hF q ((om q).1 hq).1,hk1];exact rfl
     have two:∀ q,BV (G i) p (Qr x (G i p)) q=cond (pvI (AA x 5)==q) (Qr x (G i q)) (G i q):=fun q=>by
      unfold BV;rw [hp];cases hq:q==p with
      | true=>rw [beq_iff_eq.1 hq,beq_self_eq_true]
      | false=>rw [show (p==q)=false from beq_eq_false_iff_ne.2 (fun e=>by rw [e,beq_self_eq_true] at hq;cases hq)];rfl
     rcases vf with v0 | v1
     ·have e:iLt 0 (Cy x)=false:=by rw [v0];rfl
      rw [e,cond_false,fin _ fun q hq=>by
       rw [two];unfold II;rw [v0,show ((0:Int)==q)=false from beq_eq_false_iff_ne.2 (by omega),cond_false]]
     ·have e:iLt 0 (Cy x)=true:=by simp only [iLt,decide_eq_true_eq];omega
      have vo:Cy x∈o:=(om _).2 v1;have cv:=Zz on vo;have iv:=Ck (o:=o) (F:=BV (G i) p (Qr x (G i p))) (p:=Cy x) (by omega) hN;rw [J1.2 vo,cond_true] at iv;rw [e,cond_true];refine Gm iv ?_;simp only [PXb,BP,Ab (Eo vo).1,Int.toNat_natCast,cv,HJ,NT];have last:∀ (b:Bool) (bw:Int),b=pvB (AA x 28)→bw=cond b (pvI (AA x 4)) (BV (G i) p (Qr x (G i p)) (Cy x)).bowler→AK o (BV (BV (G i) p (Qr x (G i p))) (Cy x) { BV (G i) p (Qr x (G i p)) (Cy x) with out:=true,how:=pvI (AA x 14),fielder:=pvI (AA x 16),bowler:=bw })=AK o (G (i+1)):=fun b bw hb hw=>fin _ fun q hq=>by
       subst hb;subst hw;show BV _ (Cy x) (sq x (BV (G i) p (Qr x (G i p)) (Cy x))) q=_;unfold II;rw [← two q];unfold BV;cases hq2:q==Cy x with
       | true=>rw [beq_iff_eq.1 hq2,beq_self_eq_true]
       | false=>rw [show (Cy x==q)=false from beq_eq_false_iff_ne.2 (fun e=>by rw [e,beq_self_eq_true] at hq2;cases hq2)];rfl
      cases hw:pvB (AA x 28) with
      | true =>
       rw [cond_true];exact congrArg (fun R=>self [Leaf.int ((i+1:Nat):Int),Leaf.rows R]) (last true _ hw.symm rfl)
      | false =>
       rw [cond_false];exact congrArg (fun R=>self [Leaf.int ((i+1:Nat):Int),Leaf.rows R]) (last false _ hw.symm rfl)
   ·simp only [PXb];generalize dLn (K:Int) D (EF fun p=>Bn E p E.length) D.length=F0 at *
    refine Ae (C8 (len:=E.length) (fun i=>[.int (i:Int),.rows (AK o (eLn E F0 i))]) [.rows (AK o (eLn E F0 E.length))] ?_ ?_ N (by omega)) rfl
    ·intro self;simp only [PXb,BC]
    ·intro i self hi;have wi:IntKind.i64.wrap ((i:Int)+1)=((i+1:Nat):Int):=DF (show i≤1099511627776 by omega);have ei:=einE i hi;have kk:(evR E i).kind=pvI (AF E i 0):=rfl;have kp:(evR E i).player=pvI (AF E i 2):=rfl;have ky:(evR E i).yes=pvB (AF E i 4):=rfl;have nx:eLn E F0 (i+1)=fun p=>evL (evR E i) p (eLn E F0 i p):=rfl
     generalize eLn E F0 i=G at *
     simp only [PXb,A5 hi,Ab hi,wi,← kk,← kp,← ky];rw [nx];have fin:∀ (h:Int),(∀ q,evL (evR E i) q (G q)=cond ((evR E i).player==q) { G q with out:=true,how:=h } (G q))→AK o (BV G (evR E i).player { G (evR E i).player with out:=true,how:=h })=AK o fun p=>evL (evR E i) p (G p):=fun h hq=>by
      congr 1
      funext q
      rw [hq];unfold BV;cases hq2:q==(evR E i).player with
      | true=>rw [beq_iff_eq.1 hq2,beq_self_eq_true]
      | false=>rw [show ((evR E i).player==q)=false from beq_eq_false_iff_ne.2 (fun e=>by rw [e,beq_self_eq_true] at hq2;cases hq2)];rfl
     cases h5:(evR E i).kind==5&&(evR E i).yes with
     | true =>
      simp only [zzj] at h5;have po:(evR E i).player∈o:=(om _).2 (ei.en (beq_iff_eq.1 h5.1));have cs:=Zz on po;have ix:=Ck (o:=o) (F:=G) (p:=(evR E i).player) (by omega) hN;rw [J1.2 po,cond_true] at ix;rw [cond_true];refine Gm ix ?_;simp only [PXb,BP,Ab (Eo po).1,Int.toNat_natCast,cs,HJ,NT];rw [← fin 9 fun q=>by unfold evL;rw [h5.1,h5.2];rfl]
     | false =>
      cases h6:(evR E i).kind==6 && !(evR E i).yes with
      | true =>
       have h6':=h6;simp only [zzj] at h6';have po:(evR E i).player∈o:=(om _).2 (ei.re (beq_iff_eq.1 h6'.1));have cs:=Zz on po;have ix:=Ck (o:=o) (F:=G) (p:=(evR E i).player) (by omega) hN;rw [J1.2 po,cond_true] at ix;rw [cond_false,cond_true];refine Gm ix ?_;simp only [PXb,BP,Ab (Eo po).1,Int.toNat_natCast,cs,HJ,NT];rw [← fin 10 fun q=>by unfold evL;rw [h5,h6];rfl]
      | false =>
       rw [cond_false,cond_false];have:(fun p=>evL (evR E i) p (G p))=G:=funext fun q=>by unfold evL;rw [h5,h6];rfl
       rw [this]
def Ii (X:Rows) (p:Int):Nat→Ln
 | 0=>ln0
 | n+1=>II (AL X n) p (Ii X p n)
def evX (e:Ev) (p:Int) (l:Ln):Ln:=cond (e.kind==2&&(e.player==p||e.other==p)) { l with batted:=true } (cond ((e.kind==5&&e.player==p) && !e.yes) { l with batted:=true } (cond (e.kind==5&&e.player==p) { l with out:=true,how:=9 } (cond ((e.kind==6&&e.player==p) && !e.yes) { l with out:=true,how:=10 } l)))
def XK (E:Rows) (p:Int) (l:Ln):Nat→Ln
 | 0=>l
 | n+1=>evX (evR E n) p (XK E p l n)
theorem jo (E:Rows) (p:Int) (F:Int→Ln):∀ n,XK E p (F p) n={ eLn E F n p with batted:=(F p).batted||Bn E p n }
 | 0=>by
  show F p={ F p with batted:=(F p).batted||false };rw [Bool.or_false]
 | n+1=>by
  show evX (evR E n) p (XK E p (F p) n)={ evL (evR E n) p (eLn E F n p) with batted:=(F p).batted||(Bn E p n||cond ((evR E n).kind==2) (p==(evR E n).player||p==(evR E n).other) (cond ((evR E n).kind==5) (p==(evR E n).player && !(evR E n).yes) false)) };rw [jo E p F n];generalize eLn E F n p=l;generalize (F p).batted=b;generalize Bn E p n=c;have c1:((evR E n).player==p)=(p==(evR E n).player):=by rw [Bool.eq_iff_iff,beq_iff_eq,beq_iff_eq];exact eq_comm
  have c2:((evR E n).other==p)=(p==(evR E n).other):=by rw [Bool.eq_iff_iff,beq_iff_eq,beq_iff_eq];exact eq_comm
  unfold evX evL;rw [c1,c2];cases h2:(evR E n).kind==2 with
  | true =>
   rw [beq_iff_eq.1 h2];cases p==(evR E n).player<;>cases p==(evR E n).other<;>cases (evR E n).yes<;>cases b<;>cases c<;>rfl
  | false =>
   cases h5:(evR E n).kind==5 with
   | true =>
    rw [beq_iff_eq.1 h5];cases p==(evR E n).player<;>cases p==(evR E n).other<;>cases (evR E n).yes<;>cases b<;>cases c<;>rfl
   | false =>
    cases (evR E n).kind==6<;>cases p==(evR E n).player<;>cases p==(evR E n).other<;>cases (evR E n).yes<;>cases b<;>cases c<;>rfl
theorem sO (x:List PV) (p:Int) (l:Ln) (b:Bool):II x p { l with batted:=b }={ II x p l with batted:=b }:=by
 unfold II;cases Cy x==p<;>cases pvI (AA x 5)==p<;>rfl
theorem tX (e:Ev) (p:Int) (l:Ln) (b:Bool):evL e p { l with batted:=b }={ evL e p l with batted:=b }:=by
 unfold evL;cases e.kind==5&&e.yes<;>cases e.kind==6 && !e.yes<;>cases e.player==p<;>rfl
theorem pj (x:List PV) (p:Int) (l:Ln):(II x p l).batted=l.batted:=by
 unfold II;cases Cy x==p<;>cases pvI (AA x 5)==p<;>rfl
theorem dh (X:Rows) (p:Int):∀ n,(Ii X p n).batted=false
 | 0=>rfl
 | n+1=>(pj _ _ _).trans (dh X p n)
theorem X5 {X Y:Rows} {p:Int}:∀ n,(∀ i,i<n→AL X i=AL Y i)→Ii X p n=Ii Y p n
 | 0,_=>rfl
 | n+1,h=>by
  show II (AL X n) p _=II (AL Y n) p _;rw [h n (Nat.lt_succ_self n),X5 n (fun i hi=>h i (Nat.lt_succ_of_lt hi))]
theorem da (A:Rows) (y:List PV) (p:Int):Ii (A++[y]) p (A++[y]).length=II y p (Ii A p A.length):=by
 rw [List.length_append];show II (AL (A++[y]) A.length) p (Ii (A++[y]) p A.length)=_;have e:AL (A++[y]) A.length=y:=by
  unfold AL;rw [zzk,List.getElem?_append_right (Nat.le_refl _),Nat.sub_self];rfl
 rw [e,X5 (Y:=A) A.length (fun i hi=>by
  unfold AL;rw [zzk,zzk,List.getElem?_append_left hi])]
theorem ip (k:Int) (D:Rows) (B:Int→Bool) (p:Int):∀ n,n≤D.length→dLn k D (EF B) n p={ Ii (fil k (D.take n)) p (fil k (D.take n)).length with batted:=B p }
 | 0,_=>rfl
 | n+1,h=>by
  show cond (pvI (AF D n 1)==k) (II (AL D n) p (dLn k D (EF B) n p)) (dLn k D (EF B) n p)=_;rw [oH (by omega),ip k D B p n (by omega)];cases pvI (AF D n 1)==k with
  | true =>
   rw [cond_true,cond_true,da,sO];rfl
  | false=>rfl
theorem px (E:Rows) {F G:Int→Ln} {B:Int→Bool} {p:Int} (h:F p={ G p with batted:=B p }):∀ n,eLn E F n p={ eLn E G n p with batted:=B p }
 | 0=>h
 | n+1=>by
  show evL (evR E n) p (eLn E F n p)=_;rw [px E h n,tX];rfl
theorem rQ (k:Int) (D E:Rows) (p:Int):XK E p (Ii (fil k D) p (fil k D).length) E.length=eLn E (dLn k D (EF fun p=>Bn E p E.length) D.length) E.length p:=by
 have h1:=jo E p (fun p=>Ii (fil k D) p (fil k D).length) E.length;have h2:=ip k D (fun p=>Bn E p E.length) p D.length (Nat.le_refl _);rw [List.take_length] at h2;rw [px E (G:=fun p=>Ii (fil k D) p (fil k D).length) (B:=fun p=>Bn E p E.length) h2 E.length];refine h1.trans ?_;rw [dh,Bool.false_or]
end Go.Px
end
