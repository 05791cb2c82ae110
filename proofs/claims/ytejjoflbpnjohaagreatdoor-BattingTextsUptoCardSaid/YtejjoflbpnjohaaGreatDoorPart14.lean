/- Part 14. -/
import Derived.Test.YtejjoflbpnjohaaGreatDoorPart13
import Derived.KernelRfl
set_option linter.unusedVariables false
set_option linter.unusedSimpArgs false
section
namespace Go.Px
set_option maxRecDepth 100000
theorem ux (xs:List (Int×Int)) (k:Nat) (s:Int×Int) (i:Nat) (hi:i<xs.length):pr (xs.set k s) i=(if k=i then s else pr xs i):=by
 rw [Um,Um,List.getElem?_set]
 by_cases h:k=i
 ·subst h;rw [if_pos rfl,if_pos rfl,if_pos hi]
 ·rw [if_neg h,if_neg h]
theorem vI (xs:List (Int×Int)) (s:Int×Int) (i:Nat) (hi:i<xs.length+1):pr (xs++[s]) i=(if i<xs.length then pr xs i else s):=by
 rw [Um,Um]
 by_cases h:i<xs.length
 ·rw [if_pos h,List.getElem?_append_left h]
 ·have:i=xs.length:=by omega
  subst this;rw [if_neg h,List.getElem?_append_right (Nat.le_refl _),Nat.sub_self];rfl
theorem VX {L:Rows} {i:Nat} (h:((evR L i).kind==2)=true):opn L (i+1)=opn L i+1:=by
 show opn L i+cond ((evR L i).kind==2) 1 0=_;rw [h];rfl
theorem rp {L:Rows} {i:Nat} (h:((evR L i).kind==2)=false):opn L (i+1)=opn L i:=by
 show opn L i+cond ((evR L i).kind==2) 1 0=_;rw [h];rfl
theorem j0 {L : Rows} (hL : L.length ≤ 1048576) : ∀ i, i ≤ L.length → ∀ k, k < opn L i → ∃ a : Nat, (pr (B0 L i) k).1 = (a : Int) ∧ a < i ∧ opn L a = k ∧ ((evR L a).kind == 2) = true ∧
    ((k+1<opn L i∧∃ b:Nat,(pr (B0 L i) k).2=(b:Int)∧b<i∧opn L b=k+1∧((evR L b).kind==2)=true)∨(k+1=opn L i∧(pr (B0 L i) k).2=(L.length:Int)))
  | 0,_,k,hk=>absurd hk (Nat.not_lt_zero k)
  | i+1,hi,k,hk=>by
    have ih:=j0 hL i (by omega);cases h2:(evR L i).kind==2 with
    | false =>
      rw [rp h2] at hk ⊢;rw [ke h2];obtain ⟨a,h3,h4,h5,h6,h7⟩:=ih k hk;refine ⟨a,h3,by omega,h5,h6,?_⟩
      rcases h7 with ⟨q,b,q1,q2,q3,q4⟩ | q
      · exact Or.inl ⟨q,b,q1,by omega,q3,q4⟩
      · exact Or.inr q
    | true =>
      rw [VX h2] at hk ⊢;have sl:=X0 L i;have hle:=gz L i;have ha:=fun (j:Nat) (hj:j<opn L i+1)=>vI (HA (B0 L i) (i:Int)) ((i:Int),(L.length:Int)) j (by rw [Th,sl];exact hj)
      have e:B0 L (i+1)=HA (B0 L i) (i:Int)++[((i:Int),(L.length:Int))]:=by
        show cond ((evR L i).kind==2) _ _=_;rw [h2];rfl
      rw [e,ha k hk,Th,sl]
      by_cases hkn:k<opn L i
      · rw [if_pos hkn];obtain ⟨a,h3,h4,h5,h6,h7⟩:=ih k hkn;have hp:0<opn L i:=by omega
        have ix:=(l7 hp (by omega)).1;have es:HA (B0 L i) (i:Int)=(B0 L i).set (opn L i - 1) ((pr (B0 L i) (opn L i - 1)).1,(i:Int)):=by
          unfold HA;rw [sl,show iLt 0 (opn L i:Int)=true by simp only [iLt,decide_eq_true_eq];omega,ix];rfl
        rw [es,ux _ _ _ _ (by rw [sl];exact hkn)]
        by_cases hl:opn L i - 1=k
        · rw [if_pos hl,hl];exact ⟨a,h3,by omega,h5,h6,Or.inl ⟨by omega,i,rfl,by omega,by omega,h2⟩⟩
        · rw [if_neg hl];refine ⟨a,h3,by omega,h5,h6,Or.inl ⟨by omega,?_⟩⟩
          rcases h7 with ⟨q,b,q1,q2,q3,q4⟩ | q
          · exact ⟨b,q1,by omega,q3,q4⟩
          · omega
      · have hke:k=opn L i:=by omega
        rw [if_neg hkn];exact ⟨i,rfl,by omega,hke.symm,h2,Or.inr ⟨by omega,rfl⟩⟩
theorem qZ {L:Rows} {a b:Nat} (h:opn L a=opn L b) (ha:((evR L a).kind==2)=true) (hb:((evR L b).kind==2)=true):a=b:=by
 rcases Nat.lt_trichotomy a b with h1 | h1 | h1
 ·have:=JB L (show a+1≤b by omega);have:=VX ha;omega
 ·exact h1
 ·have:=JB L (show b+1≤a by omega);have:=VX hb;omega
def CH (L:Rows) (k:Nat):Nat:=if k<opn L L.length then (pr (B0 L L.length) k).1.toNat else L.length
structure Seg (L:Rows) (k:Nat):Prop where
 x0:(pr (B0 L L.length) k).1=(CH L k:Int)
 x1:(pr (B0 L L.length) k).2=(CH L (k+1):Int)
 lt:CH L k<CH L (k+1)
 le:CH L (k+1)≤L.length
 o0:opn L (CH L k)=k
 o1:opn L (CH L (k+1))=k+1
 mid:∀ j,CH L k≤j→j<CH L (k+1)→opn L (j+1)=k+1
theorem seg {L:Rows} (hL:L.length≤1048576) {k:Nat} (h:k<opn L L.length):Seg L k:=by
 obtain ⟨a,h1,h2,h3,h4,h5⟩:=j0 hL L.length (Nat.le_refl _) k h;have p0:CH L k=a:=by unfold CH;rw [if_pos h,h1];rfl
 have key:(pr (B0 L L.length) k).2=(CH L (k+1):Int)∧a<CH L (k+1)∧CH L (k+1)≤L.length∧opn L (CH L (k+1))=k+1:=by
  rcases h5 with ⟨q,b,q1,q2,q3,q4⟩ | ⟨q,q1⟩
  ·obtain ⟨a',g1,g2,g3,g4,_⟩:=j0 hL L.length (Nat.le_refl _) (k+1) q;have e:a'=b:=qZ (g3.trans q3.symm) g4 q4;subst e;have p1:CH L (k+1)=a':=by unfold CH;rw [if_pos q,g1];rfl
   rw [p1];refine ⟨q1,?_,by omega,q3⟩
   rcases Nat.lt_or_ge a a' with hl | hl
   ·exact hl
   ·have:=JB L hl;omega
  ·have p1:CH L (k+1)=L.length:=by unfold CH;rw [if_neg (by omega)]
   rw [p1];exact ⟨q1,h2,Nat.le_refl _,q.symm⟩
 obtain ⟨k1,k2,k3,k4⟩:=key;refine ⟨by rw [h1,p0],k1,by rw [p0];exact k2,k3,by rw [p0];exact h3,k4,fun j j1 j2=>?_⟩;rw [p0] at j1;have m1:=JB L (show a+1≤j+1 by omega);have m2:=JB L (show j+1≤CH L (k+1) by omega);rw [VX h4] at m1;omega
theorem ur (L:Rows) {a b:Nat} (i j:Nat) (h:i<b - a):AB ((L.take b).drop a) i j=AB L (a+i) j:=by
 unfold AB Aa;rw [zzk,zzk,List.getElem?_drop,List.getElem?_take,if_pos (by omega)]
theorem oy (L:Rows) {a b:Nat} (i:Nat) (h:i<b - a):evR ((L.take b).drop a) i=evR L (a+i):=by
 unfold evR atI atB;simp only [ur L i _ h]
theorem tR {L:Rows} {a b:Nat} (h:b≤L.length):((L.take b).drop a).length=b - a:=by
 rw [List.length_drop,List.length_take];omega
theorem sM {L:Rows} {f:Ev→Int} {c:Int} (hf:∀ e,0≤f e∧f e≤c) (j:Nat):∀ i:Nat,0≤smi L f j i∧smi L f j i≤c * (i:Int)
 | 0=>by
  have:smi L f j 0=0:=rfl;rw [this];omega
 | i+1=>by
  have ih:=sM (L:=L) hf j i;have h1:=hf (evR L i);rw [kL,show c * ((i+1:Nat):Int)=c * (i:Int)+c by rw [show ((i+1:Nat):Int)=(i:Int)+1 by omega,Int.mul_add,Int.mul_one]];have h2:=hf (evR L i);generalize c * (i:Int)=z at ih ⊢;cases Nat.beq (opn L (i+1)) (j+1)<;>simp only [cond_true,cond_false]<;>omega
structure Sml (x:Sco):Prop where
 runs:0≤x.runs∧x.runs≤1000000
 wk:0≤x.wickets∧x.wickets≤1000000
 balls:0≤x.balls∧x.balls≤1000000
 wides:0≤x.wides∧x.wides≤1000000
 no:0≤x.noballs∧x.noballs≤1000000
 bb:0≤x.byes∧x.byes≤1000000
 lb:0≤x.legbyes∧x.legbyes≤1000000
 pens:0≤x.pens∧x.pens≤1000000
structure InLog (L:Rows):Prop where
 len:L.length≤4000
 pen:∀ j,j<L.length→((evR L j).kind==13)=true→1≤opn L (j+1)
theorem JF {r:Rul} {L:Rows} (h:Dg r L=0):((Ab r).2==0)=true∧BK r=0∧L.length≤4000∧acc L L.length 0 (Ab r).1∧IR r L=(stM L L.length 0 (Ab r).1,-1,0):=by
 unfold Dg at h;cases hc:BK r==0 with
 | false=>rw [hc] at h;rw [show BK r=0 from h] at hc;cases hc
 | true =>
  cases hl:iLt 4000 (L.length:Int) with
  | true=>rw [hc,hl] at h;cases h
  | false =>
   cases hr:(IR r L).2.2==0 with
   | false=>rw [hc,hl,hr] at h;cases h
   | true =>
    have hn:=(qM r).trans hc;have hrep:IR r L=Hs L L.length 0 (Ab r).1:=by unfold IR;rw [hn];rfl
    obtain ⟨k,h1,h2,h3,h4⟩:=Zc L L.length 0 (Ab r).1;have l4:L.length≤4000:=by simp only [iLt,decide_eq_false_iff_not] at hl;omega
    rcases h4 with ⟨h5,h6⟩ | ⟨h5,h6,h7⟩
    ·subst h5;exact ⟨hn,beq_iff_eq.1 hc,l4,h2,hrep.trans h6⟩
    ·rw [hrep,h7] at hr;rw [h6] at hr;cases hr
def Mb (k s p o:Int) (y:Bool) (t f n b h v:Int):List PV:=[.int k,.int s,.int p,.int o,.bool y,.int 0,.int 0,.int t,.int f,.int n,.int 0,.int b,.bool false,.int h,.int v,.int 0,.int 0,.bool false,.int 0]
def Xz:Rows:=[Mb 1 1 0 0 true 0 0 0 0 0 0,Mb 2 0 1 2 false 0 0 0 0 0 0,Mb 8 0 2 0 false 0 0 0 0 0 0,Mb 3 0 1 0 false 0 0 0 0 0 0,Mb 4 0 0 0 false 1 1 1 0 0 0,Mb 4 0 0 0 false 1 0 0 0 1 1,Mb 2 0 2 1 false 0 0 0 0 0 0,Mb 8 0 1 0 false 0 0 0 0 0 0,Mb 3 0 2 0 false 0 0 0 0 0 0,Mb 4 0 0 0 false 2 0 0 0 0 0,Mb 4 0 0 0 false 1 1 0 4 0 0]
def Xv:Rul:=⟨⟨#[84,69,83,84]⟩,2,1,1,4,0,1,1,false,0,0,0,11,[]⟩
theorem vY:O4 4194304 []=some [.rows Xz]:=by kernel_rfl
theorem sq:Kl 4194304 []=some Xv.ls:=by kernel_rfl
theorem Gi {x:Option (List PV)} {v:List PV} {f:List PV→Option (List PV)} {r:Option (List PV)} (h:x=some v) (hk:f v=r):x.bind f=r:=by rw [h];exact hk
theorem dG {L:Rows}:∀ k i m out,Uo L (k+1) i m out=cond ((evR L (i+k)).kind==4) (Uo L k i m out++[IH ((i+k:Nat):Int) (stM L k i m) (A1 ((i+k:Nat):Int) (stM L k i m) (evR L (i+k))).1 (evR L (i+k)).ball]) (Uo L k i m out)
 | 0,i,m,out=>rfl
 | k+1,i,m,out=>by
  have ih:=dG (L:=L) k (i+1) (A1 i m (evR L i)).1 (cond ((evR L i).kind==4) (out++[IH i m (A1 i m (evR L i)).1 (evR L i).ball]) out);rw [show i+1+k=i+(k+1) by omega] at ih;exact ih
def vV (x:List PV):List PV:=[.int (pvI (AA x 0)),.int (pvI (AA x 1)),.int (pvI (AA x 2)),.int (pvI (AA x 3)),.int (pvI (AA x 4)),.int (pvI (AA x 5)),.int (pvI (AA x 6)),.bool (pvB (AA x 7)),.int (pvI (AA x 8)),.int (pvI (AA x 9)),.int (pvI (AA x 10)),.int (pvI (AA x 11)),.int (pvI (AA x 12)),.bool (pvB (AA x 13)),.int (pvI (AA x 14)),.int (pvI (AA x 15)),.int (pvI (AA x 16)),.int (pvI (AA x 17)),.bool (pvB (AA x 18)),.int (pvI (AA x 19)),.int (pvI (AA x 20)),.int (pvI (AA x 21)),.int (pvI (AA x 22)),.int (pvI (AA x 23)),.int (pvI (AA x 24)),.int (pvI (AA x 25)),.bool (pvB (AA x 26)),.bool (pvB (AA x 27)),.bool (pvB (AA x 28)),.bool (pvB (AA x 29)),.int (pvI (AA x 30)),.int (pvI (AA x 31))]
def fil (k:Int):Rows→Rows
 | []=>[]
 | x::D=>cond (pvI (AA x 1)==k) (vV x::fil k D) (fil k D)
theorem iJ {d:Del} (h:(EY d==0)=true):0≤d.sector∧d.sector≤8:=by
 unfold EY at h;cases h1:(iLt d.type 1||iLt 3 d.type||iLt 3 d.source||iLt 10 d.how || !btw d.sector 0 8) with
 | true=>rw [h1] at h;cases h
 | false =>
  simp only [btw,iLe,Bool.or_eq_false_iff,Bool.not_eq_false',zzj,decide_eq_true_eq] at h1;exact h1.2
structure BallF (r:Rul) (L:Rows) (a:Nat):Prop where
 one:1≤opn L a
 lnx:lnx (stM L a 0 (Ab r).1).inns=opn L a - 1
 inn:IntKind.i64.wrap (((stM L a 0 (Ab r).1).inns.length:Int) - 1)=((opn L a - 1:Nat):Int)
 ok:InnOk r (AY (stM L a 0 (Ab r).1))
 rules:(stM L a 0 (Ab r).1).rules=r
 ref:(Gt r (AY (stM L a 0 (Ab r).1)) (evR L a).ball==0)=true
 over:(AY (stM L a 0 (Ab r).1)).complete≤1000
theorem qD {r:Rul} {L:Rows} (hc:Dg r L=0) {a:Nat} (ha:a<L.length) (hk:((evR L a).kind==4)=true):BallF r L a:=by
 obtain ⟨h1,h2,h3,h4,h5⟩:=JF hc;obtain ⟨li,so,_⟩:=N8 h1 h4 a (by omega);obtain ⟨_,_,hi⟩:=N8 h1 h4 L.length (Nat.le_refl _);have e:=beq_iff_eq.1 hk;have one:=(hi a ha).2.play (by rw [e];rfl) (by rw [e];rfl) (by rw [e];rfl) (by rw [e];rfl);have a0:=Tx L.length 0 _ h4 a ha;rw [Nat.zero_add] at a0;have q:=(XG a0).1;rw [q] at a0;obtain ⟨g1,g2,g3,g4⟩:=VB a0 hk;have sl:=so.len;have ll:=li.len;have lx:Px.lnx (stM L a 0 (Ab r).1).inns=opn L a - 1:=by
  unfold Px.lnx;rw [ll,CO (by omega) (by omega)];omega
 have rl:=so.rules;obtain ⟨hv,he,hn,hw,hp,hs⟩:=Qs g3;rw [rl] at hv hp;have ok:=Jn.1 hv;have hpb:Be r (AY (stM L a 0 (Ab r).1)) (evR L a)=LB r (AY (stM L a 0 (Ab r).1)) (evR L a).ball:=by unfold Be;rw [e];rfl
 rw [hpb] at hp;have cl:=oU h1 h4 a (by omega);have at1:=cl.at' (opn L a - 1) (by omega);have kx:sco (FP (stM L a 0 (Ab r).1)).xs (opn L a - 1)=Bc r.balls (AY (stM L a 0 (Ab r).1)):=by
  unfold FP AY;rw [rl,lx];exact Qu _ _ (by omega)
 rw [kx] at at1;have bl:Cf r.balls (AY (stM L a 0 (Ab r).1)).complete (AY (stM L a 0 (Ab r).1)).inover=smi L (mb r) (opn L a - 1) a:=congrArg Sco.balls at1;have be:=(gn ok).1;have cb:=sM (L:=L) (f:=mb r) (c:=1) (fun e=>by unfold mb;cases (JM r e).counts<;>simp) (opn L a - 1) a;have q4:=(El ok.code).balls;have io:=ok.io;have co:=ok.complete;unfold Bj at co;have m1:=Int.mul_le_mul_of_nonneg_left q4.1 co.1;refine ⟨one,lx,by rw [ll,CO (by omega) (by omega)];omega,ok,rl,(de hp).1,?_⟩;rw [bl] at be;omega
structure RowF (r:Rul) (x:List PV):Prop where
 over:∃ o:Nat,o≤1000∧pvI (AA x 2)=(o:Int)
 sector:∃ s:Nat,s≤8∧pvI (AA x 19)=(s:Int)
 striker:1≤pvI (AA x 5)∧pvI (AA x 5)≤r.side
 cre:∃ d,pvI (AA x 20)=(AE r d).batter∧pvI (AA x 21)=(AE r d).wides∧pvI (AA x 22)=(AE r d).noballs∧pvI (AA x 23)=(AE r d).byes∧pvI (AA x 24)=(AE r d).legbyes∧pvI (AA x 25)=(AE r d).bowler
theorem vj {r:Rul} {L:Rows} (hc:Dg r L=0) {a:Nat} (ha:a<L.length) (hk:((evR L a).kind==4)=true) (t:Mat):RowF r (IH (a:Int) (stM L a 0 (Ab r).1) t (evR L a).ball):=by
 have bf:=qD hc ha hk;obtain ⟨q1,q2,q3,q4,q5,q6⟩:=Xa bf.ref;have ls:=iJ q4;have co:=bf.ok.complete;unfold Bj at co;have st:=bf.ok.st;have over:=bf.over;have beg:Ca (AY (stM L a 0 (Ab r).1)).batters=true:=by
  obtain ⟨h1,h2,h3,h4,h5⟩:=JF hc;have a0:=Tx L.length 0 _ h4 a ha;rw [Nat.zero_add] at a0;have q:=(XG a0).1;rw [q] at a0;obtain ⟨g1,g2,g3,g4⟩:=VB a0 hk;exact ZY (Qs g3).2.2.2.1 (by rw [beq_iff_eq.1 hk];rfl)
 have z1:=(Zr q1 beg).1;rw [beq_eq_false_iff_ne] at z1;refine ⟨⟨(AY (stM L a 0 (Ab r).1)).complete.toNat,by omega,?_⟩,⟨(evR L a).ball.sector.toNat,by omega,?_⟩,?_,(evR L a).ball,?_⟩
 ·show (AY (stM L a 0 (Ab r).1)).complete=_;omega
 ·show (evR L a).ball.sector=_;omega
 ·show 1≤(AY (stM L a 0 (Ab r).1)).striker∧(AY (stM L a 0 (Ab r).1)).striker≤r.side;omega
 ·have rl:=bf.rules;show (AE (stM L a 0 (Ab r).1).rules _).batter=_∧(AE (stM L a 0 (Ab r).1).rules _).wides=_∧(AE (stM L a 0 (Ab r).1).rules _).noballs=_∧(AE (stM L a 0 (Ab r).1).rules _).byes=_∧(AE (stM L a 0 (Ab r).1).rules _).legbyes=_∧(AE (stM L a 0 (Ab r).1).rules _).bowler=_;rw [rl];exact ⟨rfl,rfl,rfl,rfl,rfl,rfl⟩
structure Ln where
 runs:Int
 balls:Int
 fours:Int
 sixes:Int
 out:Bool
 how:Int
 bowler:Int
 fielder:Int
 batted:Bool
def lnR (p:Int) (l:Ln):List PV:=[.int p,.int l.runs,.int l.balls,.int l.fours,.int l.sixes,.bool l.out,.int l.how,.int l.bowler,.int l.fielder,.bool l.batted]
def ln0:Ln:={ runs:=0,balls:=0,fours:=0,sixes:=0,out:=false,how:=0,bowler:=0,fielder:=0,batted:=false }
def AL (o:List Int) (F:Int→Ln):Rows:=o.map fun p=>lnR p (F p)
theorem Bu (o:List Int) (F:Int→Ln):(AL o F).length=o.length:=List.length_map _
def Ae (p:Int):List Int→Nat
 | []=>0
 | q::r=>cond (q==p) 0 (Ae p r+1)
theorem px (p:Int):∀ o,Ae p o≤o.length
 | []=>Nat.le_refl _
 | q::r=>by
  have:=px p r;unfold Ae;cases q==p
  ·exact Nat.succ_le_succ this
  ·exact Nat.zero_le _
theorem FV {p:Int}:∀ {o:List Int},p∈o→Ae p o<o.length∧o.getD (Ae p o) 0=p
 | q::r,h=>by
  unfold Ae;cases hq:q==p with
  | true=>exact ⟨Nat.succ_pos _,beq_iff_eq.1 hq⟩
  | false =>
   rcases List.mem_cons.1 h with rfl | h
   ·rw [beq_self_eq_true] at hq;cases hq
   ·obtain ⟨h1,h2⟩:=FV h;exact ⟨Nat.succ_lt_succ h1,h2⟩
theorem o6 {p:Int}:∀ {o:List Int},p∉o→Ae p o=o.length
 | [],_=>rfl
 | q::r,h=>by
  unfold Ae;have hq:(q==p)=false:=beq_eq_false_iff_ne.2 fun e=>h (e▸zzl)
  rw [hq];exact congrArg (·+1) (o6 fun hm=>h (zzm _ hm))
theorem VQ {p:Int} {o:List Int}:Ae p o<o.length↔p∈o:=by
 constructor
 ·intro h
  by_cases hm:p∈o
  ·exact hm
  ·rw [o6 hm] at h;omega
 ·intro h;exact (FV h).1
theorem im {o:List Int} {F:Int→Ln} {j:Nat} (h:j<o.length):Aa (AL o F) j=lnR (o.getD j 0) (F (o.getD j 0)):=by
 unfold Aa AL;rw [zzk,List.getElem?_map,zzn h,zzk,zzn h];rfl
theorem eR {o:List Int} {F:Int→Ln} {p:Int} (h:p∈o):Aa (AL o F) (Ae p o)=lnR p (F p):=by
 obtain ⟨h1,h2⟩:=FV h;rw [im h1,h2]
def BW (F:Int→Ln) (p:Int) (v:Ln) (q:Int):Ln:=cond (q==p) v (F q)
theorem HL (F:Int→Ln) (p:Int) (v:Ln):BW F p v p=v:=by unfold BW;rw [beq_self_eq_true];rfl
theorem OO (F:Int→Ln) (p:Int) (v v':Ln):BW (BW F p v) p v'=BW F p v':=funext fun q=>by
 unfold BW;cases q==p<;>rfl
theorem jh {F:Int→Ln} {p:Int} {v:Ln}:∀ {o:List Int},o.Nodup→p∈o→(AL o F).set (Ae p o) (lnR p v)=AL o (BW F p v)
 | q::r,hn,h=>by
  obtain ⟨h1,h2⟩:=List.nodup_cons.1 hn;unfold Ae;cases hq:q==p with
  | true =>
   have e:=beq_iff_eq.1 hq;subst e;show lnR q v::AL r F=lnR q (BW F q v q)::AL r (BW F q v);rw [HL];congr 1;unfold AL;refine List.map_congr_left fun x hx=>?_
   have:(x==q)=false:=beq_eq_false_iff_ne.2 fun e=>h1 (e▸hx)
   unfold BW;rw [this];rfl
  | false =>
   rcases List.mem_cons.1 h with rfl | h
   ·rw [beq_self_eq_true] at hq;cases hq
   ·show lnR q (F q)::(AL r F).set (Ae p r) (lnR p v)=lnR q (BW F p v q)::AL r (BW F p v);rw [jh h2 h];unfold BW;rw [hq];rfl
theorem FB {o : List Int} {F : Int → Ln} {p : Int} {v : Ln} {off : Nat} {vs : List PV} (hn : o.Nodup) (h : p ∈ o) (e : BE (lnR p (F p)) off vs = lnR p v) :
    (AL o F).set (Ae p o) (BE (Aa (AL o F) (Ae p o)) off vs)=AL o (BW F p v):=by
  rw [eR h,e,jh hn h]
theorem qV (o:List Int) (F:Int→Ln) (p:Int) (v:Ln) (h:p∉o):AL o F++[lnR p v]=AL (o++[p]) (BW F p v):=by
 unfold AL;rw [List.map_append];show _=_++[lnR p (BW F p v p)];rw [HL];congr 1;refine List.map_congr_left fun x hx=>?_
 have:(x==p)=false:=beq_eq_false_iff_ne.2 fun e=>h (e▸hx)
 unfold BW;rw [this];rfl
theorem oG {o:List Int} {F G:Int→Ln} (h:∀ p,p∈o→F p=G p):AL o F=AL o G:=by
 unfold AL;exact List.map_congr_left fun x hx=>by rw [h x hx]
theorem et {o : List Int} {F : Int → Ln} {p : Int} {n : Nat} (hn : o.length ≤ n) {G : (List AR → Option (List PV)) → List PV → Option (List PV)} {k : Nat → List AR} {R : List PV} {Q : Nat → List PV}
    (h0:∀ self,G self ((k o.length).map Leaf.pv)=some R)
    (h1:∀ i self,i<o.length→G self ((k i).map Leaf.pv)=cond (o.getD i 0==p) (some (Q i)) (self (k (i+1)))) :
    ∀ (f i:Nat),o.length - i<f→i≤Ae p o→Dt G f ((k i).map Leaf.pv)=some (cond (Nat.blt (Ae p o) o.length) (Q (Ae p o)) R):=by
  have below:∀ i,i<Ae p o→(o.getD i 0==p)=false:=fun i hi=>by
    have go:∀ (o:List Int) (i:Nat),i<Ae p o→(o.getD i 0==p)=false:=fun o=>by
      induction o with
      | nil=>intro i hi;exact absurd hi (Nat.not_lt_zero _)
      | cons q r ih =>
        intro i hi;unfold Ae at hi;cases hq:q==p with
        | true=>rw [hq] at hi;exact absurd hi (Nat.not_lt_zero _)
        | false =>
          rw [hq,cond_false] at hi;cases i with
          | zero=>exact hq
          | succ i=>exact ih i (Nat.lt_of_succ_lt_succ hi)
    exact go o i hi
  intro f
  induction f with
  | zero=>intro i hf;exact absurd hf (Nat.not_lt_zero _)
  | succ f ih =>
    intro i hf hi;have pl:=px p o
    by_cases hlt:i<o.length
    · show G _ _=_;rw [h1 i _ hlt]
      by_cases hp:i=Ae p o
      · obtain ⟨_,h2⟩:=FV (VQ.1 (hp▸hlt));rw [hp,h2,beq_self_eq_true,cond_true,show Nat.blt (Ae p o) o.length=true from Nat.ble_eq_true_of_le (hp▸hlt)];rfl
      · rw [below i (by omega),cond_false];exact ih (i+1) (by omega) (by omega)
    · have e:Ae p o=o.length:=by omega
      have e2:i=o.length:=by omega
      show G _ _=_;rw [e2,h0,e,show Nat.blt o.length o.length=false by
        cases hb:Nat.blt o.length o.length with
        | false=>rfl
        | true=>exact absurd (Nat.le_of_ble_eq_true hb) (Nat.lt_irrefl _)]
      rfl
def Cq (o:List Int) (p:Int):List Int:=cond (Nat.blt (Ae p o) o.length) o (o++[p])
theorem J9 {p:Int} {o:List Int}:Nat.blt (Ae p o) o.length=true↔p∈o:=⟨fun h=>VQ.1 (Nat.le_of_ble_eq_true h),fun h=>Nat.ble_eq_true_of_le (VQ.2 h)⟩
theorem HM {o:List Int} {p:Int} (h:o.Nodup):(Cq o p).Nodup:=by
 unfold Cq;cases hb:Nat.blt (Ae p o) o.length with
 | true=>exact h
 | false =>
  rw [cond_false];refine List.nodup_append.2 ⟨h,List.nodup_cons.2 ⟨List.not_mem_nil,List.nodup_nil⟩,fun x hx y hy e=>?_⟩;have hy:=List.mem_singleton.1 hy;rw [e,hy] at hx;have:=J9.2 hx;rw [hb] at this;cases this
theorem J5 {o:List Int} {p q:Int}:q∈Cq o p↔q∈o∨q=p:=by
 unfold Cq;cases hb:Nat.blt (Ae p o) o.length with
 | true =>
  have:=J9.1 hb;exact ⟨fun h=>.inl h,fun h=>h.elim id fun e=>e▸this⟩
 | false=>rw [cond_false,List.mem_append,List.mem_singleton]
theorem To (o:List Int) (p:Int):(Cq o p).length≤o.length+1:=by
 unfold Cq;cases Nat.blt (Ae p o) o.length
 ·rw [cond_false,List.length_append];exact Nat.le_refl _
 ·exact Nat.le_succ _
def cX (F:Int→Ln) (o:List Int) (p:Int) (b:Bool):Int→Ln:=BW F p (cond (Nat.blt (Ae p o) o.length) { F p with batted:=(F p).batted||b } { ln0 with batted:=b })
def BX (L:Rows):Nat→List Int
 | 0=>[]
 | n+1=>cond ((evR L n).kind==2) (Cq (Cq (BX L n) (evR L n).player) (evR L n).other) (cond ((evR L n).kind==5) (Cq (BX L n) (evR L n).player) (BX L n))
def CN (L:Rows) (p:Int):Nat→Bool
 | 0=>false
 | n+1=>CN L p n||cond ((evR L n).kind==2) (p==(evR L n).player||p==(evR L n).other) (cond ((evR L n).kind==5) (p==(evR L n).player && !(evR L n).yes) false)
def Nl (o:List Int):Nat→List Int
 | 0=>o
 | n+1=>Cq (Nl o n) ((n:Int)+1)
theorem Qj (L:Rows):∀ n,(BX L n).Nodup
 | 0=>List.nodup_nil
 | n+1=>by
  have ih:=Qj L n;unfold BX;cases (evR L n).kind==2 with
  | true=>exact HM (HM ih)
  | false =>
   cases (evR L n).kind==5 with
   | true=>exact HM ih
   | false=>exact ih
theorem VR (L:Rows):∀ n,(BX L n).length≤2 * n
 | 0=>Nat.le_refl _
 | n+1=>by
  have ih:=VR L n;unfold BX;cases (evR L n).kind==2 with
  | true =>
   have h1:=To (BX L n) (evR L n).player;have h2:=To (Cq (BX L n) (evR L n).player) (evR L n).other;show (Cq _ _).length≤_;omega
  | false =>
   cases (evR L n).kind==5 with
   | true =>
    have h1:=To (BX L n) (evR L n).player;show (Cq _ _).length≤_;omega
   | false=>show (BX L n).length≤_;omega
theorem U7 {o:List Int} (h:o.Nodup):∀ n,(Nl o n).Nodup
 | 0=>h
 | n+1=>HM (U7 h n)
theorem ZU (o:List Int):∀ n,(Nl o n).length≤o.length+n
 | 0=>Nat.le_refl _
 | n+1=>by
  have:=ZU o n;have h2:=To (Nl o n) ((n:Int)+1);show (Cq _ _).length≤_;omega
theorem Zl {o:List Int} {p:Int}:∀ {n:Nat},p∈Nl o n↔p∈o∨(1≤p∧p≤(n:Int))
 | 0=>by
  show p∈o↔_;constructor
  ·exact .inl
  ·rintro (h | h)
   ·exact h
   ·omega
 | n+1=>by
  show p∈Cq (Nl o n) ((n:Int)+1)↔_;rw [J5,Zl];constructor
  ·rintro ((h | h) | h)
   ·exact .inl h
   ·exact .inr (by omega)
   ·exact .inr (by omega)
  ·rintro (h | h)
   ·exact .inl (.inl h)
   ·by_cases e:p=(n:Int)+1
    ·exact .inr e
    ·exact .inl (.inr (by omega))
theorem R8 {o:List Int} {F:Int→Ln} {i:Nat} (h:i<o.length):pvI (AB (AL o F) i 0)=o.getD i 0:=by
 unfold AB;rw [im h];rfl
set_option maxHeartbeats 1000000 in
theorem Ch {N:Nat} {o:List Int} {F:Int→Ln} {p:Int} (ho:o.length≤1048576) (hN:2097152<N):Bz N [.rows (AL o F),.rows [[.int p]]]=some [.int (cond (Nat.blt (Ae p o) o.length) (Ae p o:Int) (-1))]:=by
 show Bv (std (Bm N) N) (xOf _)=_;simp only [Bv,lq9,std,xOf,PXb];refine AU (et (o:=o) (F:=F) (p:=p) (n:=o.length) (Nat.le_refl _) (k:=fun i=>[.int (i:Int)]) (R:=[.int 1]) (Q:=fun i=>[.int 0,.int (i:Int)]) ?_ ?_ N 0 (by omega) (Nat.zero_le _)) ?_
 ·intro self;simp only [PXb,PXc,PXn,AG,Bu,A2,List.map_cons,List.map_nil,Leaf.pv]
 ·intro i self hi;simp only [PXb,PXc,PXn,AG,Bu,Cv (show i≤1099511627776 by omega),Av hi,AN hi,R8 hi,List.map_cons,List.map_nil,Leaf.pv];rfl
 ·cases Nat.blt (Ae p o) o.length<;>rfl
theorem pf {o : List Int} {F : Int → Ln} {p : Int} {N : Nat} (hN : o.length < N) {G : (List AR → Option (List PV)) → List PV → Option (List PV)} {k1 k2 : List PV → Option (List PV)} {g : Option (List PV)}
    (h0:∀ self,G self [.int (o.length:Int),.int p]=some [.int 1,.int p])
    (h1:∀ i self,i<o.length→G self [.int (i:Int),.int p]=cond (o.getD i 0==p) (some [.int 0,.int (i:Int),.int p]) (self [.int ((i+1:Nat):Int),.int p]))
    (hk:(k1 (cond (Nat.blt (Ae p o) o.length) [.int 0,.int (Ae p o:Int),.int p] [.int 1,.int p])).bind k2=g):((Dt G N [.int 0,.int p]).bind k1).bind k2=g:=by
  have:=et (o:=o) (F:=F) (p:=p) (n:=o.length) (Nat.le_refl _) (k:=fun i=>[.int (i:Int),.int p]) (R:=[.int 1,.int p]) (Q:=fun i=>[.int 0,.int (i:Int),.int p]) (G:=G) h0 h1 N 0 (by omega) (Nat.zero_le _);have e:Dt G N [.int 0,.int p]=some (cond (Nat.blt (Ae p o) o.length) [.int 0,.int (Ae p o:Int),.int p] [.int 1,.int p]):=this;rw [e];exact hk
theorem tU {p:Int} {o:List Int} (h:p∉o):Ae p (o++[p])=o.length:=by
 induction o with
 | nil=>show Ae p [p]=0;unfold Ae;rw [beq_self_eq_true];rfl
 | cons q r ih =>
  show Ae p (q::(r++[p]))=_;unfold Ae;have hq:(q==p)=false:=beq_eq_false_iff_ne.2 fun e=>h (e▸zzl)
  rw [hq];exact congrArg (·+1) (ih fun hm=>h (zzm _ hm))
def GK (B:Int→Bool) (p:Int):Ln:={ ln0 with batted:=B p }
theorem dT {o:List Int} {B:Int→Bool} {p:Int} {b:Bool} (hB:∀ q,q∉o→B q=false):cX (GK B) o p b=GK fun q=>B q||(q==p&&b):=funext fun q=>by
 have e:GK (fun q=>B q||(q==p&&b)) q={ ln0 with batted:=B q||(q==p&&b) }:=rfl;rw [e];unfold cX BW;cases hq:q==p with
 | true =>
  have e:=beq_iff_eq.1 hq;subst e;rw [Bool.true_and,cond_true];cases hb:Nat.blt (Ae q o) o.length with
  | true=>rfl
  | false =>
   have:B q=false:=hB q fun hm=>by rw [J9.2 hm] at hb;cases hb
   rw [this];rfl
 | false =>
  rw [cond_false,Bool.false_and,Bool.or_false];rfl
theorem Tk {L:Rows} {p:Int}:∀ n,p∉BX L n→CN L p n=false
 | 0,_=>rfl
 | n+1,h=>by
  unfold BX at h;unfold CN;cases h2:(evR L n).kind==2 with
  | true =>
   rw [h2,cond_true] at h;have h3:¬ (p∈Cq (BX L n) (evR L n).player∨p=(evR L n).other):=fun hc=>h (J5.2 hc)
   have h4:¬ (p∈BX L n∨p=(evR L n).player):=fun hc=>h3 (.inl (J5.2 hc))
   rw [Tk n (fun hc=>h4 (.inl hc)),cond_true,beq_eq_false_iff_ne.2 (fun e=>h4 (.inr e)),beq_eq_false_iff_ne.2 (fun e=>h3 (.inr e))];rfl
  | false =>
   rw [h2,cond_false] at h;cases h5:(evR L n).kind==5 with
   | true =>
    rw [h5,cond_true] at h;have h4:¬ (p∈BX L n∨p=(evR L n).player):=fun hc=>h (J5.2 hc)
    rw [Tk n (fun hc=>h4 (.inl hc)),beq_eq_false_iff_ne.2 (fun e=>h4 (.inr e))];rfl
   | false =>
    rw [h5,cond_false] at h;rw [Tk n h];rfl
def qu (L:Rows) (n:Nat):Rows:=AL (BX L n) (GK fun p=>CN L p n)
def eU (L:Rows) (k:Nat):Rows:=AL (Nl (BX L L.length) k) (GK fun p=>CN L p L.length)
theorem hP {o:List Int} {B:Int→Bool} {p:Int} (hB:∀ q,q∉o→B q=false):cX (GK B) o p true=GK fun q=>B q||q==p:=by
 have e:(fun q:Int=>B q||(q==p&&true))=fun q=>B q||q==p:=funext fun q=>by rw [Bool.and_true]
 rw [dT hB,e]
def RF (F:Int→Ln) (o:List Int) (p:Int):Int→Ln:=cond (Nat.blt (Ae p o) o.length) F (BW F p ln0)
theorem qo {o:List Int} {F:Int→Ln} {p:Int}:AL (Cq o p) (RF F o p)=cond (Nat.blt (Ae p o) o.length) (AL o F) (AL o F++[lnR p ln0]):=by
 unfold Cq RF;cases hb:Nat.blt (Ae p o) o.length with
 | true=>rfl
 | false =>
  have hm:p∉o:=fun hm=>by rw [J9.2 hm] at hb;cases hb
  exact (qV o F p ln0 hm).symm
theorem cU (o:List Int) (p:Int):p∈Cq o p:=J5.2 (.inr rfl)
theorem tj {o:List Int} {p:Int}:Ae p (Cq o p)=cond (Nat.blt (Ae p o) o.length) (Ae p o) o.length:=by
 unfold Cq;cases hb:Nat.blt (Ae p o) o.length with
 | true=>rfl
 | false =>
  have hm:p∉o:=fun hm=>by rw [J9.2 hm] at hb;cases hb
  exact tU hm
theorem VG {o:List Int} {F:Int→Ln} {p:Int} {b:Bool}:BW (RF F o p) p { RF F o p p with batted:=(RF F o p p).batted||b }=cX F o p b:=by
 unfold RF cX;cases hb:Nat.blt (Ae p o) o.length with
 | true=>rfl
 | false =>
  rw [cond_false,OO,HL];rfl
theorem YE {o : List Int} {F : Int → Ln} {p : Int} {N : Nat} (hN : o.length < N) (hl : o.length ≤ 100000) {G : (List AR → Option (List PV)) → List PV → Option (List PV)} {K3 : List PV → Option (List PV)} {g : Option (List PV)}
    (h0:∀ self,G self [.int (o.length:Int),.int p]=some [.int 1,.int p])
    (h1:∀ i self,i<o.length→G self [.int (i:Int),.int p]=cond (o.getD i 0==p) (some [.int 0,.int (i:Int),.int p]) (self [.int ((i+1:Nat):Int),.int p]))
    (hk:K3 [.int (Ae p (Cq o p):Int),.rows (AL (Cq o p) (RF F o p))]=g) :
    ((Dt G N [PV.int 0,PV.int p]).bind fun c1=>bif pvI (AA c1 0)==((0:Nat):Int) then some [PV.int (pvI (AA c1 1)),PV.int (pvI (AA c1 2))] else some [PV.int (-1),PV.int (pvI (AA c1 1))]).bind
      (fun c1=>(bif iLt (pvI (AA c1 0)) 0 then bif iSm (((AL o F++[[PV.int (pvI (AA c1 1)),PV.int 0,PV.int 0,PV.int 0,PV.int 0,PV.bool false,PV.int 0,PV.int 0,PV.int 0,PV.bool false]]).length:Nat):Int) 72 then some [PV.int (IntKind.i64.wrap ((((AL o F++[[PV.int (pvI (AA c1 1)),PV.int 0,PV.int 0,PV.int 0,PV.int 0,PV.bool false,PV.int 0,PV.int 0,PV.int 0,PV.bool false]]).length:Nat):Int) - 1)),PV.rows (AL o F++[[PV.int (pvI (AA c1 1)),PV.int 0,PV.int 0,PV.int 0,PV.int 0,PV.bool false,PV.int 0,PV.int 0,PV.int 0,PV.bool false]])] else none else some [PV.int (pvI (AA c1 0)),PV.rows (AL o F)]).bind K3)=g:=by
  refine pf (F:=F) hN h0 h1 ?_;rw [qo,tj] at hk;cases hb:Nat.blt (Ae p o) o.length with
  | true =>
    simp only [hb,cond_true] at hk;have e:iLt (Ae p o:Int) 0=false:=by simp only [iLt,decide_eq_false_iff_not];omega
    simp only [PXb,PXc,PXn,AG,e];exact hk
  | false =>
    simp only [hb,cond_false] at hk;have ll:(AL o F++[lnR p ln0]).length=o.length+1:=by rw [List.length_append,Bu];rfl
    have e2:iSm (((AL o F++[lnR p ln0]).length:Nat):Int) 72=true:=by rw [ll];exact DV (by omega) (by omega)
    have e3:IntKind.i64.wrap ((((AL o F++[lnR p ln0]).length:Nat):Int) - 1)=(o.length:Int):=by
      rw [ll,CO (by omega) (by omega)];omega
    have e4:iLt (-1) 0=true:=rfl;have e5:[PV.int p,PV.int 0,PV.int 0,PV.int 0,PV.int 0,PV.bool false,PV.int 0,PV.int 0,PV.int 0,PV.bool false]=lnR p ln0:=rfl;have q:((1:Int)==((0:Nat):Int))=false:=rfl;simp only [PXb,PXc,PXn,AG,q,e4];rw [e5,e2,e3];exact hk
theorem qs {o:List Int} {F:Int→Ln} {p:Int} (h:p∈o):pvB (AB (AL o F) (Ae p o) 9)=(F p).batted:=by unfold AB;rw [eR h];rfl
theorem ib {o : List Int} {F : Int → Ln} {p : Int} {b : Bool} (hn : o.Nodup) (h : p ∈ o) :
    (AL o F).set (Ae p o) (BE (Aa (AL o F) (Ae p o)) 9 [.bool (pvB (AB (AL o F) (Ae p o) 9)||b)])=AL o (BW F p { F p with batted:=(F p).batted||b }):=by
  rw [qs h,FB (v:={ F p with batted:=(F p).batted||b }) hn h rfl]
theorem pO {o : List Int} {F : Int → Ln} {p : Int} (hn : o.Nodup) (h : p ∈ o) :
    (AL o F).set (Ae p o) (BE (Aa (AL o F) (Ae p o)) 9 [.bool (pvB (AB (AL o F) (Ae p o) 9))])=AL o (BW F p { F p with batted:=(F p).batted||false }):=by
  have:=ib (b:=false) hn h (F:=F);rw [Bool.or_false] at this;exact this
set_option maxHeartbeats 8000000 in
theorem dJ {N:Nat} {r1 r2 r3 r4 r5 r6 r7 r9 r10 r11 r12:Int} {r8:Bool} {r0:ByteArray} {r13:Rows} {L:Rows} (hN:2097152<N) (hL:L.length≤4000) (h0:0≤r1) (h1:r1≤100):Is N [.str r0,.int r1,.int r2,.int r3,.int r4,.int r5,.int r6,.int r7,.bool r8,.int r9,.int r10,.int r11,.int r12,.rows r13,.rows L]=some [.rows (eU L r1.toNat)]:=by
 show Ir (std (QD N) N) (xOf _)=_;simp only [Ir,lq9,std,xOf,PXb];refine AU (ED (len:=L.length) (fun i=>[.int (i:Int),.rows (qu L i)]) [.rows (qu L L.length)] ?_ ?_ N (by omega)) ?_
 ·intro self;simp only [PXb,PXc,PXn,AG,A2]
 ·intro i self hi;have on:=Qj L i;have ol:=VR L i;have wi:IntKind.i64.wrap ((i:Int)+1)=((i+1:Nat):Int):=Cv (show i≤1099511627776 by omega);simp only [PXb,PXc,PXn,AG,Av hi,AN hi,qu];have kk:(evR L i).kind=pvI (AB L i 0):=rfl;have kp:(evR L i).player=pvI (AB L i 2):=rfl;have ko:(evR L i).other=pvI (AB L i 3):=rfl;have ky:(evR L i).yes=pvB (AB L i 4):=rfl;have eo:BX L (i+1)=cond ((evR L i).kind==2) (Cq (Cq (BX L i) (evR L i).player) (evR L i).other) (cond ((evR L i).kind==5) (Cq (BX L i) (evR L i).player) (BX L i)):=rfl;rw [eo,kk];have no:∀ q,q∉BX L i→CN L q i=false:=fun q hq=>Tk i hq
  cases h2:pvI (AB L i 0)==2 with
  | true =>
   rw [cond_true,cond_true,← kp,← ko];refine YE (by omega) (by omega) ?_ ?_ ?_
   ·intro self;simp only [PXb,PXc,PXn,AG,Bu,A2]
   ·intro j self hj;simp only [PXb,PXc,PXn,AG,Bu,Cv (show j≤1099511627776 by omega),Av hj,AN hj,R8 hj]
   ·have i1:=cU (BX L i) (evR L i).player;have n1:=HM (p:=(evR L i).player) on;have l1:=To (BX L i) (evR L i).player;simp only [PXb,PXc,PXn,AG,Bu,AN (FV i1).1,Int.toNat_natCast];rw [FB (v:={ RF (GK fun p=>CN L p i) (BX L i) (evR L i).player (evR L i).player with batted:=true }) n1 i1 rfl];have a1:BW (RF (GK fun p=>CN L p i) (BX L i) (evR L i).player) (evR L i).player { RF (GK fun p=>CN L p i) (BX L i) (evR L i).player (evR L i).player with batted:=true }=GK fun q=>CN L q i||q==(evR L i).player:=by
     have:=VG (o:=BX L i) (F:=GK fun p=>CN L p i) (p:=(evR L i).player) (b:=true);rw [Bool.or_true,hP no] at this;exact this
    rw [a1];refine YE (by omega) (by omega) ?_ ?_ ?_
    ·intro self;simp only [PXb,PXc,PXn,AG,Bu,A2]
    ·intro j self hj;simp only [PXb,PXc,PXn,AG,Bu,Cv (show j≤1099511627776 by omega),Av hj,AN hj,R8 hj]
    ·have i2:=cU (Cq (BX L i) (evR L i).player) (evR L i).other;have n2:=HM (p:=(evR L i).other) n1;simp only [PXb,PXc,PXn,AG,Bu,AN (FV i2).1,Int.toNat_natCast];rw [FB (v:={ RF (GK fun q=>CN L q i||q==(evR L i).player) (Cq (BX L i) (evR L i).player) (evR L i).other (evR L i).other with batted:=true }) n2 i2 rfl];have no2:∀ q,q∉Cq (BX L i) (evR L i).player→(CN L q i||q==(evR L i).player)=false:=fun q hq=>by
      have hq2:¬ (q∈BX L i∨q=(evR L i).player):=fun hc=>hq (J5.2 hc)
      rw [no q (fun hc=>hq2 (.inl hc)),beq_eq_false_iff_ne.2 (fun e=>hq2 (.inr e))];rfl
     have a2:=VG (o:=Cq (BX L i) (evR L i).player) (F:=GK fun q=>CN L q i||q==(evR L i).player) (p:=(evR L i).other) (b:=true);rw [Bool.or_true,hP no2] at a2;rw [a2,wi];have a3:(fun q=>(CN L q i||q==(evR L i).player)||q==(evR L i).other)=fun q=>CN L q (i+1):=funext fun q=>by
      show _=(CN L q i||cond ((evR L i).kind==2) (q==(evR L i).player||q==(evR L i).other) _);rw [show ((evR L i).kind==2)=true from h2,cond_true,Bool.or_assoc]
     rw [a3]
  | false =>
   cases h5:pvI (AB L i 0)==5 with
   | true =>
    rw [cond_false,cond_true,cond_false,cond_true,← kp];refine YE (by omega) (by omega) ?_ ?_ ?_
    ·intro self;simp only [PXb,PXc,PXn,AG,Bu,A2]
    ·intro j self hj;simp only [PXb,PXc,PXn,AG,Bu,Cv (show j≤1099511627776 by omega),Av hj,AN hj,R8 hj]
    ·have i1:=cU (BX L i) (evR L i).player;have n1:=HM (p:=(evR L i).player) on;simp only [PXb,PXc,PXn,AG,Bu,AN (FV i1).1,Int.toNat_natCast];rw [ib n1 i1,VG,dT no,wi,← ky];have a3:(fun q=>CN L q i||(q==(evR L i).player && !(evR L i).yes))=fun q=>CN L q (i+1):=funext fun q=>by
      show _=(CN L q i||cond ((evR L i).kind==2) _ (cond ((evR L i).kind==5) (q==(evR L i).player && !(evR L i).yes) false));rw [show ((evR L i).kind==2)=false from h2,show ((evR L i).kind==5)=true from h5];rfl
     rw [a3]
   | false =>
    rw [cond_false,cond_false,cond_false,cond_false,wi];have a3:(fun q=>CN L q i)=fun q=>CN L q (i+1):=funext fun q=>by
     show _=(CN L q i||cond ((evR L i).kind==2) _ (cond ((evR L i).kind==5) _ false));rw [show ((evR L i).kind==2)=false from h2,show ((evR L i).kind==5)=false from h5];exact (Bool.or_false _).symm
    rw [a3]
 ·have on:=Qj L L.length;have ol:=VR L L.length;have no:∀ q,q∉BX L L.length→CN L q L.length=false:=fun q hq=>Tk L.length hq
  obtain ⟨k,hk⟩:∃ k:Nat,r1=(k:Int):=⟨r1.toNat,by omega⟩;subst hk;rw [Int.toNat_natCast];simp only [PXb,PXc,PXn,AG];refine AU (ED (len:=k) (fun j=>[.int ((j:Int)+1),.rows (eU L j)]) [.rows (eU L k)] ?_ ?_ N (by omega)) rfl
  ·intro self;have e:iLe ((k:Int)+1) (k:Int)=false:=by simp only [iLe,decide_eq_false_iff_not];omega
   simp only [PXb,PXc,PXn,AG,e]
  ·intro j self hj;have e:iLe ((j:Int)+1) (k:Int)=true:=by simp only [iLe,decide_eq_true_eq];omega
   have jn:=U7 on j;have jl:=ZU (BX L L.length) j;have no3:∀ q,q∉Nl (BX L L.length) j→CN L q L.length=false:=fun q hq=>no q fun hc=>hq (Zl.2 (.inl hc))
   have eo:eU L (j+1)=AL (Cq (Nl (BX L L.length) j) ((j:Int)+1)) (GK fun p=>CN L p L.length):=rfl;rw [eo];simp only [PXb,PXc,PXn,AG,e,eU];refine YE (by omega) (by omega) ?_ ?_ ?_
   ·intro self;simp only [PXb,PXc,PXn,AG,Bu,A2]
   ·intro i self hi;simp only [PXb,PXc,PXn,AG,Bu,Cv (show i≤1099511627776 by omega),Av hi,AN hi,R8 hi]
   ·have i1:=cU (Nl (BX L L.length) j) ((j:Int)+1);have n1:=HM (p:=(j:Int)+1) jn;have wj:IntKind.i64.wrap ((j:Int)+1+1)=((j+1:Nat):Int)+1:=by rw [CO (by omega) (by omega)];omega
    have a3:(fun q=>CN L q L.length||(q==(j:Int)+1&&false))=fun q=>CN L q L.length:=funext fun q=>by rw [Bool.and_false,Bool.or_false]
    simp only [PXb,PXc,PXn,AG,Bu,AN (FV i1).1,Int.toNat_natCast];rw [pO n1 i1,VG,dT no3,a3,wj]
structure Up (x y:Sco):Prop where
 side:y.side=x.side
 runs:x.runs≤y.runs
 wk:x.wickets≤y.wickets
 balls:x.balls≤y.balls
theorem Up.refl (x:Sco):Up x x:=⟨rfl,Int.le_refl _,Int.le_refl _,Int.le_refl _⟩
def D9 (L:Rows) (k:Nat):Rows:=List.drop (CH L k) (List.take (CH L (k+1)) L)
theorem gk {L:Rows} (hL:L.length≤1048576) {k:Nat} (hk:k<opn L L.length):(D9 L k).length=CH L (k+1) - CH L k:=tR (seg hL hk).le
def gr (r:Rul) (L:Rows) (k:Int):Rows×Int:=cond (!(Dg r L==0)) ([],Dg r L) (cond (iLt k 0||iLe (opn L L.length:Int) k) ([],2) (fil k (Cu r L),0))
theorem di {p:Int} {n:Nat}:inR p n=true↔1≤p∧p≤(n:Int):=by
 unfold inR;simp only [iLe,zzj,decide_eq_true_eq]
theorem tK {s:Inn} {p q:Int} (h:((Ol s p q).2==0)=true):inR p s.batters.length=true∧inR q s.batters.length=true:=by
 unfold Ol at h;cases hb:Ca s.batters with
 | true=>rw [hb] at h;cases h
 | false =>
  cases hp:inR p s.batters.length with
  | false=>rw [hb,hp] at h;cases h
  | true =>
   cases hq:inR q s.batters.length with
   | false=>rw [hb,hp,hq] at h;cases h
   | true=>exact ⟨rfl,rfl⟩
structure EvIn (r:Rul) (e:Ev):Prop where
 op:e.kind=2→(1≤e.player∧e.player≤r.side)∧(1≤e.other∧e.other≤r.side)
 en:e.kind=5→1≤e.player∧e.player≤r.side
 re:e.kind=6→1≤e.player∧e.player≤r.side
theorem oC {r:Rul} {s:Inn} {e:Ev} (hl:(s.batters.length:Int)=r.side) (h:((Be r s e).2==0)=true):EvIn r e:=by
 unfold Be at h;refine ⟨fun k=>?_,fun k=>?_,fun k=>?_⟩
 ·rw [k] at h;have h:((Ol s e.player e.other).2==0)=true:=h;obtain ⟨a,b⟩:=tK h;rw [di,hl] at a b;exact ⟨a,b⟩
 ·rw [k] at h;have h:((cond e.yes (E6 s e.player) (Ka s e.player)).2==0)=true:=h;have m:(Je s e.player==0)=true:=by
   cases hm:Je s e.player==0 with
   | true=>rfl
   | false =>
    cases hy:e.yes with
    | true=>rw [hy] at h;unfold E6 at h;rw [hm] at h;rw [show (Je s e.player==0)=true from h] at hm;cases hm
    | false=>rw [hy] at h;unfold Ka at h;rw [hm] at h;rw [show (Je s e.player==0)=true from h] at hm;cases hm
  have:=We m;rw [di,hl] at this;exact this
 ·rw [k] at h;have h:((FU s e.player e.yes).2==0)=true:=h;have:=(qB h).1;rw [di,hl] at this;exact this
theorem l6 {r:Rul} {s:Inn} {e:Ev} (h:((Ap r s e).2==0)=true):EvIn r e:=by
 obtain ⟨hv,he,hn,hw,hp,hs⟩:=Qs h;exact oC (Jn.1 hv).lb hp
theorem tS {r:Rul} {e:Ev} (h2:(e.kind==2)=false) (h5:(e.kind==5)=false) (h6:(e.kind==6)=false):EvIn r e where
 op k:=by rw [k] at h2;cases h2
 en k:=by rw [k] at h5;cases h5
 re k:=by rw [k] at h6;cases h6
theorem Zi {m:Mat} {b:Bool} {x:Mat×Int} (h:((cond (!b) (m,1) x).2==0)=true):b=true∧(x.2==0)=true:=by
 cases b with
 | false=>cases h
 | true=>exact ⟨rfl,h⟩
theorem iX {m:Mat} {t:Int} {x:Mat×Int} (h:((cond (!(t==0)) (m,t) x).2==0)=true):(t==0)=true:=by
 cases ht:t==0 with
 | true=>rfl
 | false =>
  rw [ht] at h;rw [show (t==0)=true from h] at ht;cases ht
theorem uI {m:Mat} {e:Ev} (h:((D4 m e).2==0)=true):EvIn m.rules e:=by
 unfold D4 at h;exact l6 (iX h)
theorem rt {m:Mat} {e:Ev} (h:((DH m e).2==0)=true):EvIn m.rules e:=by
 obtain ⟨hv,he,h5,ha,hs⟩:=Uz h;unfold HT at ha;have go:∀ k,e.kind=k→(k==1)=false→(k==2)=false→(k==12)=false→(k==16)=false→EvIn m.rules e:=fun k hk a b c d=>by
  rw [hk,a,b,c,d] at ha;have ha:((cond (!(m.stage==3)) (m,1) (D4 m e)).2==0)=true:=ha;exact uI (Zi ha).2
 cases k2:e.kind==2 with
 | true =>
  have k:=beq_iff_eq.1 k2;rw [k] at ha;have ha:((cond (!(m.stage==2)) (m,1) (VM m e)).2==0)=true:=ha;have ha:=(Zi ha).2;unfold VM at ha;exact l6 (iX (Zi ha).2)
 | false =>
  cases k5:e.kind==5 with
  | true=>exact go 5 (beq_iff_eq.1 k5) rfl rfl rfl rfl
  | false =>
   cases k6:e.kind==6 with
   | true=>exact go 6 (beq_iff_eq.1 k6) rfl rfl rfl rfl
   | false=>exact tS k2 k5 k6
theorem sQ {r:Rul} {L:Rows} (hc:Dg r L=0) {a:Nat} (ha:a<L.length):EvIn r (evR L a):=by
 obtain ⟨h1,h2,h3,h4,h5⟩:=JF hc;obtain ⟨li,so,_⟩:=N8 h1 h4 a (by omega);have a0:=Tx L.length 0 _ h4 a ha;rw [Nat.zero_add] at a0;have q:=(XG a0).1;rw [q] at a0;have:=rt a0;rw [so.rules] at this;exact this
def EB (x:List PV):Int:=cond (pvI (AA x 14)==0) 0 (cond (pvI (AA x 15)==1) (pvI (AA x 5)) (cond (pvI (AA x 15)==2) (pvI (AA x 6)) 0))
def qY (x:List PV):Bool:=pvI (AA x 9)==1&&pvI (AA x 10)==0
def RA (x:List PV) (l:Ln):Ln:={ l with runs:=IntKind.i64.wrap (l.runs+pvI (AA x 20)),balls:=cond (pvB (AA x 27)) (IntKind.i64.wrap (l.balls+1)) l.balls,fours:=cond (qY x&&pvI (AA x 12)==4) (IntKind.i64.wrap (l.fours+1)) l.fours,sixes:=cond (qY x&&pvI (AA x 12)==6) (IntKind.i64.wrap (l.sixes+1)) l.sixes }
def uc (x:List PV) (l:Ln):Ln:={ l with out:=true,how:=pvI (AA x 14),fielder:=pvI (AA x 16),bowler:=cond (pvB (AA x 28)) (pvI (AA x 4)) l.bowler }
def jt (x:List PV) (p:Int) (l:Ln):Ln:=cond (EB x==p) (uc x (cond (pvI (AA x 5)==p) (RA x l) l)) (cond (pvI (AA x 5)==p) (RA x l) l)
def dLn (k:Int) (D:Rows) (F:Int→Ln):Nat→Int→Ln
 | 0,p=>F p
 | n+1,p=>cond (pvI (AB D n 1)==k) (jt (Aa D n) p (dLn k D F n p)) (dLn k D F n p)
def evL (e:Ev) (p:Int) (l:Ln):Ln:=cond (e.kind==5&&e.yes) (cond (e.player==p) { l with out:=true,how:=9 } l) (cond (e.kind==6 && !e.yes) (cond (e.player==p) { l with out:=true,how:=10 } l) l)
def eLn (E:Rows) (F:Int→Ln):Nat→Int→Ln
 | 0,p=>F p
 | n+1,p=>evL (evR E n) p (eLn E F n p)
def Sb (r:Rul) (L:Rows) (k:Int):Rows×Int:=cond ((gr r L k).2==0)
  (AL (Nl (BX (D9 L k.toNat) (D9 L k.toNat).length) r.side.toNat) (eLn (D9 L k.toNat) (dLn k (Cu r L) (GK fun p=>CN (D9 L k.toNat) p (D9 L k.toNat).length) (Cu r L).length) (D9 L k.toNat).length),0) ([],(gr r L k).2)
theorem W9 {N:Nat} {a:Int} {b:Int} {c:Int} {d:Int} {f:Int} {x:Bool} {h:Int} {v:Int} {i:Int} {j:Int} {y:Bool} {g:Int} {p:Int} {q:Int}  : GC N [.int a,.int b,.int c,.int d,.int f,.bool x,.int h,.int v,.int i,.int j,.bool y,.int g,.int p,.int q]=some [.int (cond (h==0) 0 (cond (v==1) p (cond (v==2) q 0)))]:=by
 show Ff (std (NG N) N) (xOf _)=_;simp only [Ff,lq9,std,xOf,PXb];cases h==0<;>cases v==1<;>cases v==2<;>rfl
theorem tn {r:Rul} {L:Rows} (hc:Dg r L=0) {a:Nat} (ha:a<L.length) (hk:((evR L a).kind==4)=true) (t:Mat):EB (IH (a:Int) (stM L a 0 (Ab r).1) t (evR L a).ball)=0∨(1≤EB (IH (a:Int) (stM L a 0 (Ab r).1) t (evR L a).ball)∧EB (IH (a:Int) (stM L a 0 (Ab r).1) t (evR L a).ball)≤r.side):=by
 have bf:=qD hc ha hk;have st:=bf.ok.st;have ot:=bf.ok.ot;have e:EB (IH (a:Int) (stM L a 0 (Ab r).1) t (evR L a).ball)=cond ((evR L a).ball.how==0) 0 (cond ((evR L a).ball.victim==1) (AY (stM L a 0 (Ab r).1)).striker (cond ((evR L a).ball.victim==2) (AY (stM L a 0 (Ab r).1)).other 0)):=rfl;rw [e];cases (evR L a).ball.how==0 with
 | true=>exact .inl rfl
 | false =>
  cases (evR L a).ball.victim==1 with
  | true=>show (AY (stM L a 0 (Ab r).1)).striker=0∨(1≤(AY (stM L a 0 (Ab r).1)).striker∧(AY (stM L a 0 (Ab r).1)).striker≤r.side);omega
  | false =>
   cases (evR L a).ball.victim==2 with
   | true=>show (AY (stM L a 0 (Ab r).1)).other=0∨(1≤(AY (stM L a 0 (Ab r).1)).other∧(AY (stM L a 0 (Ab r).1)).other≤r.side);omega
   | false=>exact .inl rfl
theorem mI {r:Rul} {L:Rows} (hc:Dg r L=0):∀ n,n≤L.length→∀ x,x∈Uo L n 0 (Ab r).1 []→RowF r x∧(EB x=0∨(1≤EB x∧EB x≤r.side))
 | 0,_,x,hx=>absurd hx List.not_mem_nil
 | n+1,hn,x,hx=>by
  have ih:=mI hc n (by omega);rw [dG,Nat.zero_add] at hx;cases hk:(evR L n).kind==4 with
  | false =>
   rw [hk,cond_false] at hx;exact ih x hx
  | true =>
   rw [hk,cond_true] at hx
   rcases List.mem_append.1 hx with hx | hx
   ·exact ih x hx
   ·rw [List.mem_singleton.1 hx];exact ⟨vj hc (show n<L.length by omega) hk _,tn hc (show n<L.length by omega) hk _⟩
theorem ez {r:Rul} {L:Rows} (hc:Dg r L=0):Cu r L=Uo L L.length 0 (Ab r).1 []:=by
 obtain ⟨h1,h2,h3,h4,h5⟩:=JF hc;unfold Cu;rw [h1];obtain ⟨j,j1,j2,j3,j4⟩:=Zc L L.length 0 (Ab r).1;show Mj L L.length 0 (Ab r).1 []=_;rw [j3 []]
 rcases j4 with ⟨j5,_⟩ | ⟨j5,j6,j7⟩
 ·rw [j5]
 ·have hh:=Tx L.length 0 _ h4 j j5;rw [hh] at j6;cases j6
theorem qR {D:Rows} {j:Nat} (h:j<D.length):Aa D j∈D:=by
 unfold Aa;rw [zzk,zzn h];exact List.getElem_mem h
theorem oZ {r:Rul} {L:Rows} (hc:Dg r L=0) {j:Nat} (hj:j<(Cu r L).length):RowF r (Aa (Cu r L) j)∧(EB (Aa (Cu r L) j)=0∨(1≤EB (Aa (Cu r L) j)∧EB (Aa (Cu r L) j)≤r.side)):=by
 have:=qR hj;rw [ez hc] at this;have e:=ez hc;rw [e] at hj ⊢;exact mI hc L.length (Nat.le_refl _) _ this
end Go.Px
end
