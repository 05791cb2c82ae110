/- Part 16. -/
import Derived.Test.YtejjoflbpnjohaaGreatDoorPart15
import Derived.KernelRfl
set_option linter.unusedVariables false
set_option linter.unusedSimpArgs false
section
namespace Go.Px
set_option maxRecDepth 100000
theorem AF5 (xs:List (Int×Int)) (k:Nat) (s:Int×Int) (i:Nat) (hi:i<xs.length):pr (xs.set k s) i=(if k=i then s else pr xs i):=by
 rw [cQ,cQ,List.getElem?_set]
 by_cases h:k=i
 ·subst h;rw [if_pos rfl,if_pos rfl,if_pos hi]
 ·rw [if_neg h,if_neg h]
theorem AFq (xs:List (Int×Int)) (s:Int×Int) (i:Nat) (hi:i<xs.length+1):pr (xs++[s]) i=(if i<xs.length then pr xs i else s):=by
 rw [cQ,cQ]
 by_cases h:i<xs.length
 ·rw [if_pos h,List.getElem?_append_left h]
 ·have:i=xs.length:=by omega
  subst this;rw [if_neg h,List.getElem?_append_right (Nat.le_refl _),Nat.sub_self];rfl
theorem cL {L:Rows} {i:Nat} (h:((evR L i).kind==2)=true):opn L (i+1)=opn L i+1:=by
 show opn L i+cond ((evR L i).kind==2) 1 0=_;rw [h];rfl
theorem vl {L:Rows} {i:Nat} (h:((evR L i).kind==2)=false):opn L (i+1)=opn L i:=by
 show opn L i+cond ((evR L i).kind==2) 1 0=_;rw [h];rfl
theorem wq {L : Rows} (hL : L.length ≤ 1048576) : ∀ i, i ≤ L.length → ∀ k, k < opn L i → ∃ a : Nat, (pr (B9 L i) k).1 = (a : Int) ∧ a < i ∧ opn L a = k ∧ ((evR L a).kind == 2) = true ∧
    ((k+1<opn L i∧∃ b:Nat,(pr (B9 L i) k).2=(b:Int)∧b<i∧opn L b=k+1∧((evR L b).kind==2)=true)∨(k+1=opn L i∧(pr (B9 L i) k).2=(L.length:Int)))
  | 0,_,k,hk=>absurd hk (Nat.not_lt_zero k)
  | i+1,hi,k,hk=>by
    have ih:=wq hL i (by omega);cases h2:(evR L i).kind==2 with
    | false =>
      rw [vl h2] at hk ⊢;rw [mg h2];obtain ⟨a,h3,h4,h5,h6,h7⟩:=ih k hk;refine ⟨a,h3,by omega,h5,h6,?_⟩
      rcases h7 with ⟨q,b,q1,q2,q3,q4⟩ | q
      · exact Or.inl ⟨q,b,q1,by omega,q3,q4⟩
      · exact Or.inr q
    | true =>
      rw [cL h2] at hk ⊢;have sl:=Z1 L i;have hle:=xC L i;have ha:=fun (j:Nat) (hj:j<opn L i+1)=>AFq (Hi (B9 L i) (i:Int)) ((i:Int),(L.length:Int)) j (by rw [Yv,sl];exact hj)
      have e:B9 L (i+1)=Hi (B9 L i) (i:Int)++[((i:Int),(L.length:Int))]:=by
        show cond ((evR L i).kind==2) _ _=_;rw [h2];rfl
      rw [e,ha k hk,Yv,sl]
      by_cases hkn:k<opn L i
      · rw [if_pos hkn];obtain ⟨a,h3,h4,h5,h6,h7⟩:=ih k hkn;have hp:0<opn L i:=by omega
        have ix:=(rh hp (by omega)).1;have es:Hi (B9 L i) (i:Int)=(B9 L i).set (opn L i - 1) ((pr (B9 L i) (opn L i - 1)).1,(i:Int)):=by
          unfold Hi;rw [sl,show iLt 0 (opn L i:Int)=true by simp only [iLt,decide_eq_true_eq];omega,ix];rfl
        rw [es,AF5 _ _ _ _ (by rw [sl];exact hkn)]
        by_cases hl:opn L i - 1=k
        · rw [if_pos hl,hl];exact ⟨a,h3,by omega,h5,h6,Or.inl ⟨by omega,i,rfl,by omega,by omega,h2⟩⟩
        · rw [if_neg hl];refine ⟨a,h3,by omega,h5,h6,Or.inl ⟨by omega,?_⟩⟩
          rcases h7 with ⟨q,b,q1,q2,q3,q4⟩ | q
          · exact ⟨b,q1,by omega,q3,q4⟩
          · omega
      · have hke:k=opn L i:=by omega
        rw [if_neg hkn];exact ⟨i,rfl,by omega,hke.symm,h2,Or.inr ⟨by omega,rfl⟩⟩
theorem ADs {L:Rows} {a b:Nat} (h:opn L a=opn L b) (ha:((evR L a).kind==2)=true) (hb:((evR L b).kind==2)=true):a=b:=by
 rcases Nat.lt_trichotomy a b with h1 | h1 | h1
 ·have:=LV L (show a+1≤b by omega);have:=cL ha;omega
 ·exact h1
 ·have:=LV L (show b+1≤a by omega);have:=cL hb;omega
def CX (L:Rows) (k:Nat):Nat:=if k<opn L L.length then (pr (B9 L L.length) k).1.toNat else L.length
structure Seg (L:Rows) (k:Nat):Prop where
 x0:(pr (B9 L L.length) k).1=(CX L k:Int)
 x1:(pr (B9 L L.length) k).2=(CX L (k+1):Int)
 lt:CX L k<CX L (k+1)
 le:CX L (k+1)≤L.length
 o0:opn L (CX L k)=k
 o1:opn L (CX L (k+1))=k+1
 mid:∀ j,CX L k≤j→j<CX L (k+1)→opn L (j+1)=k+1
theorem seg {L:Rows} (hL:L.length≤1048576) {k:Nat} (h:k<opn L L.length):Seg L k:=by
 obtain ⟨a,h1,h2,h3,h4,h5⟩:=wq hL L.length (Nat.le_refl _) k h;have p0:CX L k=a:=by unfold CX;rw [if_pos h,h1];rfl
 have key:(pr (B9 L L.length) k).2=(CX L (k+1):Int)∧a<CX L (k+1)∧CX L (k+1)≤L.length∧opn L (CX L (k+1))=k+1:=by
  rcases h5 with ⟨q,b,q1,q2,q3,q4⟩ | ⟨q,q1⟩
  ·obtain ⟨a',g1,g2,g3,g4,_⟩:=wq hL L.length (Nat.le_refl _) (k+1) q;have e:a'=b:=ADs (g3.trans q3.symm) g4 q4;subst e;have p1:CX L (k+1)=a':=by unfold CX;rw [if_pos q,g1];rfl
   rw [p1];refine ⟨q1,?_,by omega,q3⟩
   rcases Nat.lt_or_ge a a' with hl | hl
   ·exact hl
   ·have:=LV L hl;omega
  ·have p1:CX L (k+1)=L.length:=by unfold CX;rw [if_neg (by omega)]
   rw [p1];exact ⟨q1,h2,Nat.le_refl _,q.symm⟩
 obtain ⟨k1,k2,k3,k4⟩:=key;refine ⟨by rw [h1,p0],k1,by rw [p0];exact k2,k3,by rw [p0];exact h3,k4,fun j j1 j2=>?_⟩;rw [p0] at j1;have m1:=LV L (show a+1≤j+1 by omega);have m2:=LV L (show j+1≤CX L (k+1) by omega);rw [cL h4] at m1;omega
theorem AFz (L:Rows) {a b:Nat} (i j:Nat) (h:i<b - a):AJ ((L.take b).drop a) i j=AJ L (a+i) j:=by
 unfold AJ AO;rw [zzk,zzk,List.getElem?_drop,List.getElem?_take,if_pos (by omega)]
theorem ACk (L:Rows) {a b:Nat} (i:Nat) (h:i<b - a):evR ((L.take b).drop a) i=evR L (a+i):=by
 unfold evR atI atB;simp only [AFz L i _ h]
theorem AFO {L:Rows} {a b:Nat} (h:b≤L.length):((L.take b).drop a).length=b - a:=by
 rw [List.length_drop,List.length_take];omega
theorem AEb {L:Rows} {f:Ev→Int} {c:Int} (hf:∀ e,0≤f e∧f e≤c) (j:Nat):∀ i:Nat,0≤smi L f j i∧smi L f j i≤c * (i:Int)
 | 0=>by
  have:smi L f j 0=0:=rfl;rw [this];omega
 | i+1=>by
  have ih:=AEb (L:=L) hf j i;have h1:=hf (evR L i);rw [vJ,show c * ((i+1:Nat):Int)=c * (i:Int)+c by rw [show ((i+1:Nat):Int)=(i:Int)+1 by omega,Int.mul_add,Int.mul_one]];have h2:=hf (evR L i);generalize c * (i:Int)=z at ih ⊢;cases Nat.beq (opn L (i+1)) (j+1)<;>simp only [cond_true,cond_false]<;>omega
structure Sml (x:Sco):Prop where
 runs:0≤x.runs∧x.runs≤1000000
 wk:0≤x.wickets∧x.wickets≤1000000
 balls:0≤x.balls∧x.balls≤1000000
 wides:0≤x.wides∧x.wides≤1000000
 no:0≤x.noballs∧x.noballs≤1000000
 bb:0≤x.byes∧x.byes≤1000000
 lb:0≤x.legbyes∧x.legbyes≤1000000
 pens:0≤x.pens∧x.pens≤1000000
structure InLog (L:Rows):Prop where
 len:L.length≤4000
 pen:∀ j,j<L.length→((evR L j).kind==13)=true→1≤opn L (j+1)
theorem DT {r:Rul} {L:Rows} (h:B6 r L=0):((AU r).2==0)=true∧A4 r=0∧L.length≤4000∧acc L L.length 0 (AU r).1∧BQ r L=(stM L L.length 0 (AU r).1,-1,0):=by
 unfold B6 at h;cases hc:A4 r==0 with
 | false=>rw [hc] at h;rw [show A4 r=0 from h] at hc;cases hc
 | true =>
  cases hl:iLt 4000 (L.length:Int) with
  | true=>rw [hc,hl] at h;cases h
  | false =>
   cases hr:(BQ r L).2.2==0 with
   | false=>rw [hc,hl,hr] at h;cases h
   | true =>
    have hn:=(ADu r).trans hc;have hrep:BQ r L=C6 L L.length 0 (AU r).1:=by unfold BQ;rw [hn];rfl
    obtain ⟨k,h1,h2,h3,h4⟩:=V2 L L.length 0 (AU r).1;have l4:L.length≤4000:=by simp only [iLt,decide_eq_false_iff_not] at hl;omega
    rcases h4 with ⟨h5,h6⟩ | ⟨h5,h6,h7⟩
    ·subst h5;exact ⟨hn,beq_iff_eq.1 hc,l4,h2,hrep.trans h6⟩
    ·rw [hrep,h7] at hr;rw [h6] at hr;cases hr
theorem ABy {N:Nat} {L:Rows}  : TF N [.rows L]=some [.rows (cut L 60)]:=by
 show SX (std (MZ N) N) (xOf _)=_;simp only [SX,lq9,std,xOf,PXb,PXc,PXn,PXm,Nat.reduceAdd,Int.reduceBEq,AGN (show (0:Int)≤60 by omega)];rfl
def QO (k s p o:Int) (y:Bool) (t f n b h v:Int):List PV:=[.int k,.int s,.int p,.int o,.bool y,.int 0,.int 0,.int t,.int f,.int n,.int 0,.int b,.bool false,.int h,.int v,.int 0,.int 0,.bool false,.int 0]
def jJ:Rows:=[QO 1 1 0 0 true 0 0 0 0 0 0,QO 2 0 1 2 false 0 0 0 0 0 0,QO 8 0 2 0 false 0 0 0 0 0 0,QO 3 0 1 0 false 0 0 0 0 0 0,QO 4 0 0 0 false 1 1 1 0 0 0,QO 4 0 0 0 false 1 0 0 0 1 1,QO 2 0 2 1 false 0 0 0 0 0 0,QO 8 0 1 0 false 0 0 0 0 0 0,QO 3 0 2 0 false 0 0 0 0 0 0,QO 4 0 0 0 false 2 0 0 0 0 0,QO 4 0 0 0 false 1 1 0 4 0 0]
def iy:Rul:=⟨⟨#[84,69,83,84]⟩,2,1,1,4,0,1,1,false,0,0,0,11,[]⟩
theorem AGS:Sf 4194304 []=some [.rows jJ]:=by kernel_rfl
theorem AEl:Mn 4194304 []=some iy.ls:=by kernel_rfl
theorem Cg {x:Option (List PV)} {v:List PV} {f:List PV→Option (List PV)} {r:Option (List PV)} (h:x=some v) (hk:f v=r):x.bind f=r:=by rw [h];exact hk
structure Up (x y:Sco):Prop where
 side:y.side=x.side
 runs:x.runs≤y.runs
 wk:x.wickets≤y.wickets
 balls:x.balls≤y.balls
theorem Up.refl (x:Sco):Up x x:=⟨rfl,Int.le_refl _,Int.le_refl _,Int.le_refl _⟩
def Ce (L:Rows) (k:Nat):Rows:=List.drop (CX L k) (List.take (CX L (k+1)) L)
theorem mU {L:Rows} (hL:L.length≤1048576) {k:Nat} (hk:k<opn L L.length):(Ce L k).length=CX L (k+1) - CX L k:=AFO (seg hL hk).le
theorem aq {L:Rows}:∀ k i m out,NZ L (k+1) i m out=cond ((evR L (i+k)).kind==4) (NZ L k i m out++[E8 ((i+k:Nat):Int) (stM L k i m) (Ax ((i+k:Nat):Int) (stM L k i m) (evR L (i+k))).1 (evR L (i+k)).ball]) (NZ L k i m out)
 | 0,i,m,out=>rfl
 | k+1,i,m,out=>by
  have ih:=aq (L:=L) k (i+1) (Ax i m (evR L i)).1 (cond ((evR L i).kind==4) (out++[E8 i m (Ax i m (evR L i)).1 (evR L i).ball]) out);rw [show i+1+k=i+(k+1) by omega] at ih;exact ih
def bO (x:List PV):List PV:=[.int (pvI (AA x 0)),.int (pvI (AA x 1)),.int (pvI (AA x 2)),.int (pvI (AA x 3)),.int (pvI (AA x 4)),.int (pvI (AA x 5)),.int (pvI (AA x 6)),.bool (pvB (AA x 7)),.int (pvI (AA x 8)),.int (pvI (AA x 9)),.int (pvI (AA x 10)),.int (pvI (AA x 11)),.int (pvI (AA x 12)),.bool (pvB (AA x 13)),.int (pvI (AA x 14)),.int (pvI (AA x 15)),.int (pvI (AA x 16)),.int (pvI (AA x 17)),.bool (pvB (AA x 18)),.int (pvI (AA x 19)),.int (pvI (AA x 20)),.int (pvI (AA x 21)),.int (pvI (AA x 22)),.int (pvI (AA x 23)),.int (pvI (AA x 24)),.int (pvI (AA x 25)),.bool (pvB (AA x 26)),.bool (pvB (AA x 27)),.bool (pvB (AA x 28)),.bool (pvB (AA x 29)),.int (pvI (AA x 30)),.int (pvI (AA x 31))]
def fil (k:Int):Rows→Rows
 | []=>[]
 | x::D=>cond (pvI (AA x 1)==k) (bO x::fil k D) (fil k D)
theorem rU (k:Int):∀ A B,fil k (A++B)=fil k A++fil k B
 | [],B=>rfl
 | x::A,B=>by
  show cond _ (bO x::fil k (A++B)) (fil k (A++B))=_;rw [rU k A B];show _=cond (pvI (AA x 1)==k) (bO x::fil k A) (fil k A)++fil k B;cases pvI (AA x 1)==k<;>rfl
theorem zb (k:Int):∀ D,(fil k D).length≤D.length
 | []=>Nat.le_refl _
 | x::D=>by
  have:=zb k D;show (cond (pvI (AA x 1)==k) (bO x::fil k D) (fil k D)).length≤D.length+1;cases pvI (AA x 1)==k
  ·exact Nat.le_succ_of_le this
  ·exact Nat.succ_le_succ this
theorem ADR {D:Rows} {i:Nat} (h:i<D.length):D.take (i+1)=D.take i++[AO D i]:=by
 rw [List.take_add_one,zzn h];unfold AO;rw [zzk,zzn h];rfl
theorem wn {D:Rows} {i:Nat} {k:Int} (h:i<D.length):fil k (D.take (i+1))=cond (pvI (AJ D i 1)==k) (fil k (D.take i)++[bO (AO D i)]) (fil k (D.take i)):=by
 rw [ADR h,rU];show fil k (D.take i)++cond (pvI (AA (AO D i) 1)==k) [bO (AO D i)] []=_;show _=cond (pvI (AA (AO D i) 1)==k) _ _;cases pvI (AA (AO D i) 1)==k
 ·exact List.append_nil _
 ·rfl
theorem ADw {N : Nat} {D : Rows} {k : Int} (hN : 2097152 < N) (hD : D.length ≤ 1000000) {F : (List Ac → Option (List PV)) → List PV → Option (List PV)}
    (h0:∀ self,F self [.rows (fil k D),.int (D.length:Int)]=some [.rows (fil k D)])
    (h1:∀ i self out,i<D.length→out.length≤i→F self [.rows out,.int (i:Int)]=self [.rows (cond (pvI (AJ D i 1)==k) (out++[bO (AO D i)]) out),.int ((i+1:Nat):Int)]):ES F N [.rows [],.int 0]=some [.rows (fil k D)]:=by
  have:=BV (F:=F) (len:=D.length) (fun i=>[.rows (fil k (D.take i)),.int (i:Int)]) [.rows (fil k D)] (fun self=>by
    show F self [.rows (fil k (D.take D.length)),_]=_;rw [List.take_length];exact h0 self) (fun i self hi=>by
    have hl:=zb k (D.take i);rw [List.length_take] at hl;rw [wn hi];exact h1 i self _ hi (by omega)) N (by omega)
  exact this
set_option maxHeartbeats 2000000 in
theorem tI {N:Nat} {D:Rows} {k:Int} (hN:2097152<N) (hD:D.length≤1000000):Na N [.rows D,.int k]=some [.rows (fil k D)]:=by
 show Np (std (X6 N) N) (xOf _)=_;simp only [Np,lq9,std,xOf,PXb];refine AN (ADw hN hD ?_ ?_) rfl
 ·intro self;simp only [PXb,PXc,PXn,AD,Aj]
 ·intro i self out hi ho;have sm:iSm ((out.length+1:Nat):Int) 216=true:=DJ (by omega) (by omega);simp only [PXb,PXc,PXn,AD,Bt (show i≤1099511627776 by omega),Ad hi,AM hi,Nat.reduceAdd,List.length_append,List.length_cons,List.length_nil,sm];cases pvI (AJ D i 1)==k<;>rfl
theorem wt {d:Del} (h:(DC d==0)=true):0≤d.sector∧d.sector≤8:=by
 unfold DC at h;cases h1:(iLt d.type 1||iLt 3 d.type||iLt 3 d.source||iLt 10 d.how || !btw d.sector 0 8) with
 | true=>rw [h1] at h;cases h
 | false =>
  simp only [btw,iLe,Bool.or_eq_false_iff,Bool.not_eq_false',zzj,decide_eq_true_eq] at h1;exact h1.2
structure BallF (r:Rul) (L:Rows) (a:Nat):Prop where
 one:1≤opn L a
 lnx:lnx (stM L a 0 (AU r).1).inns=opn L a - 1
 inn:IntKind.i64.wrap (((stM L a 0 (AU r).1).inns.length:Int) - 1)=((opn L a - 1:Nat):Int)
 ok:InnOk r (AY (stM L a 0 (AU r).1))
 rules:(stM L a 0 (AU r).1).rules=r
 ref:(GO r (AY (stM L a 0 (AU r).1)) (evR L a).ball==0)=true
 over:(AY (stM L a 0 (AU r).1)).complete≤1000
theorem wX {r:Rul} {L:Rows} (hc:B6 r L=0) {a:Nat} (ha:a<L.length) (hk:((evR L a).kind==4)=true):BallF r L a:=by
 obtain ⟨h1,h2,h3,h4,h5⟩:=DT hc;obtain ⟨li,so,_⟩:=RV h1 h4 a (by omega);obtain ⟨_,_,hi⟩:=RV h1 h4 L.length (Nat.le_refl _);have e:=beq_iff_eq.1 hk;have one:=(hi a ha).2.play (by rw [e];rfl) (by rw [e];rfl) (by rw [e];rfl) (by rw [e];rfl);have a0:=Sd L.length 0 _ h4 a ha;rw [Nat.zero_add] at a0;have q:=(WH a0).1;rw [q] at a0;obtain ⟨g1,g2,g3,g4⟩:=aR a0 hk;have sl:=so.len;have ll:=li.len;have lx:Px.lnx (stM L a 0 (AU r).1).inns=opn L a - 1:=by
  unfold Px.lnx;rw [ll,CK (by omega) (by omega)];omega
 have rl:=so.rules;obtain ⟨hv,he,hn,hw,hp,hs⟩:=U3 g3;rw [rl] at hv hp;have ok:=Ke.1 hv;have hpb:BO r (AY (stM L a 0 (AU r).1)) (evR L a)=Ix r (AY (stM L a 0 (AU r).1)) (evR L a).ball:=by unfold BO;rw [e];rfl
 rw [hpb] at hp;have cl:=ACV h1 h4 a (by omega);have at1:=cl.at' (opn L a - 1) (by omega);have kx:sco (GL (stM L a 0 (AU r).1)).xs (opn L a - 1)=Bp r.balls (AY (stM L a 0 (AU r).1)):=by
  unfold GL AY;rw [rl,lx];exact U1 _ _ (by omega)
 rw [kx] at at1;have bl:Ch r.balls (AY (stM L a 0 (AU r).1)).complete (AY (stM L a 0 (AU r).1)).inover=smi L (AAz r) (opn L a - 1) a:=congrArg Sco.balls at1;have be:=(v8 ok).1;have cb:=AEb (L:=L) (f:=AAz r) (c:=1) (fun e=>by unfold AAz;cases (LF r e).counts<;>simp) (opn L a - 1) a;have q4:=(C9 ok.code).balls;have io:=ok.io;have co:=ok.complete;unfold B4 at co;have m1:=Int.mul_le_mul_of_nonneg_left q4.1 co.1;refine ⟨one,lx,by rw [ll,CK (by omega) (by omega)];omega,ok,rl,(rc hp).1,?_⟩;rw [bl] at be;omega
def Tf (r:Rul) (L:Rows) (k:Nat):Nat→Rows
 | 0=>[]
 | n+1=>cond ((evR L n).kind==4&&Nat.beq (opn L (n+1)) (k+1)) (Tf r L k n++[E8 (n:Int) (stM L n 0 (AU r).1) (stM L (n+1) 0 (AU r).1) (evR L n).ball]) (Tf r L k n)
theorem zg {r:Rul} {L:Rows} (hc:B6 r L=0) (k:Nat):∀ n,n≤L.length→fil (k:Int) (NZ L n 0 (AU r).1 [])=Tf r L k n
 | 0,_=>rfl
 | n+1,hn=>by
  have ih:=zg hc k n (by omega);rw [aq,Nat.zero_add];have si:=bP (L:=L) n 0 (AU r).1;rw [Nat.zero_add] at si;show _=cond ((evR L n).kind==4&&Nat.beq (opn L (n+1)) (k+1)) _ (Tf r L k n);cases hk:(evR L n).kind==4 with
  | false=>exact ih
  | true =>
   have bf:=wX hc (show n<L.length by omega) hk;have on:opn L (n+1)=opn L n:=vl (by rw [beq_iff_eq.1 hk];rfl);rw [cond_true,rU,ih,← si,on,Bool.true_and];show Tf r L k n++cond (IntKind.i64.wrap (((stM L n 0 (AU r).1).inns.length:Int) - 1)==(k:Int)) [_] []=_;rw [bf.inn];have one:=bf.one
   by_cases e:opn L n=k+1
   ·rw [e,jQ,show ((k+1 - 1:Nat):Int)=(k:Int) by omega,beq_self_eq_true];rfl
   ·rw [ph e,beq_false_of_ne (by omega)];exact List.append_nil _
theorem AAB {r:Rul} {L:Rows} (hc:B6 r L=0) (k:Nat):fil (k:Int) (BC r L)=Tf r L k L.length:=by
 obtain ⟨h1,h2,h3,h4,h5⟩:=DT hc;have:BC r L=NZ L L.length 0 (AU r).1 []:=by
  unfold BC;rw [h1];obtain ⟨j,j1,j2,j3,j4⟩:=V2 L L.length 0 (AU r).1;show MF L L.length 0 (AU r).1 []=_;rw [j3 []]
  rcases j4 with ⟨j5,_⟩ | ⟨j5,j6,j7⟩
  ·rw [j5]
  ·have hh:=Sd L.length 0 _ h4 j j5;rw [hh] at j6;cases j6
 rw [this];exact zg hc k L.length (Nat.le_refl _)
structure RowF (r:Rul) (x:List PV):Prop where
 over:∃ o:Nat,o≤1000∧pvI (AA x 2)=(o:Int)
 sector:∃ s:Nat,s≤8∧pvI (AA x 19)=(s:Int)
 striker:1≤pvI (AA x 5)∧pvI (AA x 5)≤r.side
 cre:∃ d,pvI (AA x 20)=(AF r d).batter∧pvI (AA x 21)=(AF r d).wides∧pvI (AA x 22)=(AF r d).noballs∧pvI (AA x 23)=(AF r d).byes∧pvI (AA x 24)=(AF r d).legbyes∧pvI (AA x 25)=(AF r d).bowler
theorem AEL {r:Rul} {L:Rows} (hc:B6 r L=0) {a:Nat} (ha:a<L.length) (hk:((evR L a).kind==4)=true) (t:Mat):RowF r (E8 (a:Int) (stM L a 0 (AU r).1) t (evR L a).ball):=by
 have bf:=wX hc ha hk;obtain ⟨q1,q2,q3,q4,q5,q6⟩:=iK bf.ref;have ls:=wt q4;have co:=bf.ok.complete;unfold B4 at co;have st:=bf.ok.st;have over:=bf.over;have beg:Bz (AY (stM L a 0 (AU r).1)).batters=true:=by
  obtain ⟨h1,h2,h3,h4,h5⟩:=DT hc;have a0:=Sd L.length 0 _ h4 a ha;rw [Nat.zero_add] at a0;have q:=(WH a0).1;rw [q] at a0;obtain ⟨g1,g2,g3,g4⟩:=aR a0 hk;exact mC (U3 g3).2.2.2.1 (by rw [beq_iff_eq.1 hk];rfl)
 have z1:=(lf q1 beg).1;rw [beq_eq_false_iff_ne] at z1;refine ⟨⟨(AY (stM L a 0 (AU r).1)).complete.toNat,by omega,?_⟩,⟨(evR L a).ball.sector.toNat,by omega,?_⟩,?_,(evR L a).ball,?_⟩
 ·show (AY (stM L a 0 (AU r).1)).complete=_;omega
 ·show (evR L a).ball.sector=_;omega
 ·show 1≤(AY (stM L a 0 (AU r).1)).striker∧(AY (stM L a 0 (AU r).1)).striker≤r.side;omega
 ·have rl:=bf.rules;show (AF (stM L a 0 (AU r).1).rules _).batter=_∧(AF (stM L a 0 (AU r).1).rules _).wides=_∧(AF (stM L a 0 (AU r).1).rules _).noballs=_∧(AF (stM L a 0 (AU r).1).rules _).byes=_∧(AF (stM L a 0 (AU r).1).rules _).legbyes=_∧(AF (stM L a 0 (AU r).1).rules _).bowler=_;rw [rl];exact ⟨rfl,rfl,rfl,rfl,rfl,rfl⟩
theorem AES {r:Rul} {L:Rows} (hc:B6 r L=0) (k:Nat):∀ n,n≤L.length→(Tf r L k n).length≤n∧∀ x,x∈Tf r L k n→RowF r x
 | 0,_=>⟨Nat.le_refl _,fun x hx=>absurd hx (List.not_mem_nil)⟩
 | n+1,hn=>by
  obtain ⟨i1,i2⟩:=AES hc k n (by omega);show (cond ((evR L n).kind==4&&Nat.beq (opn L (n+1)) (k+1)) _ (Tf r L k n)).length≤n+1∧∀ x,x∈cond ((evR L n).kind==4&&Nat.beq (opn L (n+1)) (k+1)) _ (Tf r L k n)→RowF r x;cases hk:(evR L n).kind==4 with
  | false=>exact ⟨Nat.le_succ_of_le i1,i2⟩
  | true =>
   cases Nat.beq (opn L (n+1)) (k+1) with
   | false=>exact ⟨Nat.le_succ_of_le i1,i2⟩
   | true =>
    refine ⟨?_,fun x hx=>?_⟩
    ·show (Tf r L k n++[_]).length≤n+1;rw [List.length_append];exact Nat.succ_le_succ i1
    ·rcases List.mem_append.1 hx with hx | hx
     ·exact i2 x hx
     ·rw [List.mem_singleton.1 hx];exact AEL hc (by omega) hk _
def Cs (r:Rul) (L:Rows) (k:Int):Rows×Int:=cond (!(B6 r L==0)) ([],B6 r L) (cond (iLt k 0||iLe (opn L L.length:Int) k) ([],2) (fil k (BC r L),0))
theorem lj {r:Rul} {L:Rows} {k:Int} (h:((Cs r L k).2==0)=true):B6 r L=0∧0≤k∧k<(opn L L.length:Int)∧(Cs r L k).1=Tf r L k.toNat L.length∧(Cs r L k).2=0∧(Cs r L k).1.length≤4000∧∀ i,i<(Cs r L k).1.length→RowF r (AO (Cs r L k).1 i):=by
 unfold Cs at h ⊢;cases hc:B6 r L==0 with
 | false=>rw [hc] at h;exact absurd (show (B6 r L==0)=true from h) (by rw [hc];decide)
 | true =>
  have c0:=beq_iff_eq.1 hc;cases hb:iLt k 0||iLe (opn L L.length:Int) k with
  | true=>rw [hc,hb] at h;cases h
  | false =>
   simp only [Bool.or_eq_false_iff,iLt,iLe,decide_eq_false_iff_not] at hb;obtain ⟨K,rfl⟩:∃ K:Nat,k=(K:Int):=⟨k.toNat,by omega⟩;have e:=AAB c0 K;obtain ⟨b1,b2⟩:=AES c0 K L.length (Nat.le_refl _);have l4:=(DT c0).2.2.1;refine ⟨c0,by omega,by omega,?_,rfl,?_,fun i hi=>?_⟩
   ·exact e
   ·show (fil (K:Int) (BC r L)).length≤4000;rw [e];omega
   ·change i<(fil (K:Int) (BC r L)).length at hi;show RowF r (AO (fil (K:Int) (BC r L)) i);rw [e] at hi ⊢;refine b2 _ ?_;unfold AO;rw [zzk,zzn hi];exact List.getElem_mem hi
set_option maxHeartbeats 4000000 in
theorem AEH {N:Nat} {r1 r2 r3 r4 r5 r6 r7 r9 r10 r11 r12:Int} {r8:Bool} {r0:ByteArray} {r13:Rows} {L:Rows} {k:Int} (hN:2097152<N) (hs:r0.size≤1048576) (h13:r13.length≤1048576) (hL:L.length≤1000000):VJ N [.str r0,.int r1,.int r2,.int r3,.int r4,.int r5,.int r6,.int r7,.bool r8,.int r9,.int r10,.int r11,.int r12,.rows r13,.rows L,.int k]=some [.rows (cond ((Cs (⟨r0,r1,r2,r3,r4,r5,r6,r7,r8,r9,r10,r11,r12,r13⟩:Rul) L k).2==0) (Ce L k.toNat) []),.rows (Cs (⟨r0,r1,r2,r3,r4,r5,r6,r7,r8,r9,r10,r11,r12,r13⟩:Rul) L k).1,.int (Cs (⟨r0,r1,r2,r3,r4,r5,r6,r7,r8,r9,r10,r11,r12,r13⟩:Rul) L k).2]:=by
 show WD (std (FK N) N) (xOf _)=_;generalize hres:(some [.rows (cond ((Cs (⟨r0,r1,r2,r3,r4,r5,r6,r7,r8,r9,r10,r11,r12,r13⟩:Rul) L k).2==0) (Ce L k.toNat) []),.rows (Cs (⟨r0,r1,r2,r3,r4,r5,r6,r7,r8,r9,r10,r11,r12,r13⟩:Rul) L k).1,.int (Cs (⟨r0,r1,r2,r3,r4,r5,r6,r7,r8,r9,r10,r11,r12,r13⟩:Rul) L k).2]:Option (List PV))=RR;have hl:L.length≤1048576:=by omega
 simp only [WD,gr,ez,jV,Pj,lq9,std,xOf,PXb,yH hN hs h13 hl,vU hN hl,ABV hN hs h13 hl,Zo,PXc];subst hres;simp only [Cs];cases hc:B6 (⟨r0,r1,r2,r3,r4,r5,r6,r7,r8,r9,r10,r11,r12,r13⟩:Rul) L==0 with
 | false=>simp only [PXb,Bool.not_false,hc]
 | true =>
  have pl:=pH (⟨r0,r1,r2,r3,r4,r5,r6,r7,r8,r9,r10,r11,r12,r13⟩:Rul) L;simp only [PXb,Bool.not_true,PXp,Z1];cases hb:iLt k 0||iLe (opn L L.length:Int) k with
  | true=>rfl
  | false =>
   simp only [Bool.or_eq_false_iff,iLt,iLe,decide_eq_false_iff_not] at hb;obtain ⟨K,rfl⟩:∃ K:Nat,k=(K:Int):=⟨k.toNat,by omega⟩;have hk:K<opn L L.length:=by omega
   have sg:=seg hl hk;have sgl:=sg.lt;have sge:=sg.le;have rg:iRg (CX L K:Int) (CX L (K+1):Int) (L.length:Int)=true:=by simp only [iRg,decide_eq_true_eq];omega
   simp only [PXb,AM hk,sg.x0,sg.x1,rg,Int.toNat_natCast,Pj,tI hN (show (BC (⟨r0,r1,r2,r3,r4,r5,r6,r7,r8,r9,r10,r11,r12,r13⟩:Rul) L).length≤1000000 by omega),beq_self_eq_true];rfl
structure Ln where
 runs:Int
 balls:Int
 fours:Int
 sixes:Int
 out:Bool
 how:Int
 bowler:Int
 fielder:Int
 batted:Bool
def lnR (p:Int) (l:Ln):List PV:=[.int p,.int l.runs,.int l.balls,.int l.fours,.int l.sixes,.bool l.out,.int l.how,.int l.bowler,.int l.fielder,.bool l.batted]
def ln0:Ln:={ runs:=0,balls:=0,fours:=0,sixes:=0,out:=false,how:=0,bowler:=0,fielder:=0,batted:=false }
def AQ (o:List Int) (F:Int→Ln):Rows:=o.map fun p=>lnR p (F p)
theorem Bv (o:List Int) (F:Int→Ln):(AQ o F).length=o.length:=List.length_map _
def Al (p:Int):List Int→Nat
 | []=>0
 | q::r=>cond (q==p) 0 (Al p r+1)
theorem ABs (p:Int):∀ o,Al p o≤o.length
 | []=>Nat.le_refl _
 | q::r=>by
  have:=ABs p r;unfold Al;cases q==p
  ·exact Nat.succ_le_succ this
  ·exact Nat.zero_le _
theorem GN {p:Int}:∀ {o:List Int},p∈o→Al p o<o.length∧o.getD (Al p o) 0=p
 | q::r,h=>by
  unfold Al;cases hq:q==p with
  | true=>exact ⟨Nat.succ_pos _,beq_iff_eq.1 hq⟩
  | false =>
   rcases List.mem_cons.1 h with rfl | h
   ·rw [beq_self_eq_true] at hq;cases hq
   ·obtain ⟨h1,h2⟩:=GN h;exact ⟨Nat.succ_lt_succ h1,h2⟩
theorem ACt {p:Int}:∀ {o:List Int},p∉o→Al p o=o.length
 | [],_=>rfl
 | q::r,h=>by
  unfold Al;have hq:(q==p)=false:=beq_eq_false_iff_ne.2 fun e=>h (e▸zzl)
  rw [hq];exact congrArg (·+1) (ACt fun hm=>h (zzm _ hm))
theorem cM {p:Int} {o:List Int}:Al p o<o.length↔p∈o:=by
 constructor
 ·intro h
  by_cases hm:p∈o
  ·exact hm
  ·rw [ACt hm] at h;omega
 ·intro h;exact (GN h).1
theorem wL {o:List Int} {F:Int→Ln} {j:Nat} (h:j<o.length):AO (AQ o F) j=lnR (o.getD j 0) (F (o.getD j 0)):=by
 unfold AO AQ;rw [zzk,List.getElem?_map,zzn h,zzk,zzn h];rfl
theorem ra {o:List Int} {F:Int→Ln} {p:Int} (h:p∈o):AO (AQ o F) (Al p o)=lnR p (F p):=by
 obtain ⟨h1,h2⟩:=GN h;rw [wL h1,h2]
def Bk (F:Int→Ln) (p:Int) (v:Ln) (q:Int):Ln:=cond (q==p) v (F q)
theorem Il (F:Int→Ln) (p:Int) (v:Ln):Bk F p v p=v:=by unfold Bk;rw [beq_self_eq_true];rfl
theorem RX (F:Int→Ln) (p:Int) (v v':Ln):Bk (Bk F p v) p v'=Bk F p v':=funext fun q=>by
 unfold Bk;cases q==p<;>rfl
theorem vw {F:Int→Ln} {p:Int} {v:Ln}:∀ {o:List Int},o.Nodup→p∈o→(AQ o F).set (Al p o) (lnR p v)=AQ o (Bk F p v)
 | q::r,hn,h=>by
  obtain ⟨h1,h2⟩:=List.nodup_cons.1 hn;unfold Al;cases hq:q==p with
  | true =>
   have e:=beq_iff_eq.1 hq;subst e;show lnR q v::AQ r F=lnR q (Bk F q v q)::AQ r (Bk F q v);rw [Il];congr 1;unfold AQ;refine List.map_congr_left fun x hx=>?_
   have:(x==q)=false:=beq_eq_false_iff_ne.2 fun e=>h1 (e▸hx)
   unfold Bk;rw [this];rfl
  | false =>
   rcases List.mem_cons.1 h with rfl | h
   ·rw [beq_self_eq_true] at hq;cases hq
   ·show lnR q (F q)::(AQ r F).set (Al p r) (lnR p v)=lnR q (Bk F p v q)::AQ r (Bk F p v);rw [vw h2 h];unfold Bk;rw [hq];rfl
theorem Fo {o : List Int} {F : Int → Ln} {p : Int} {v : Ln} {off : Nat} {vs : List PV} (hn : o.Nodup) (h : p ∈ o) (e : BE (lnR p (F p)) off vs = lnR p v) :
    (AQ o F).set (Al p o) (BE (AO (AQ o F) (Al p o)) off vs)=AQ o (Bk F p v):=by
  rw [ra h,e,vw hn h]
theorem AD6 (o:List Int) (F:Int→Ln) (p:Int) (v:Ln) (h:p∉o):AQ o F++[lnR p v]=AQ (o++[p]) (Bk F p v):=by
 unfold AQ;rw [List.map_append];show _=_++[lnR p (Bk F p v p)];rw [Il];congr 1;refine List.map_congr_left fun x hx=>?_
 have:(x==p)=false:=beq_eq_false_iff_ne.2 fun e=>h (e▸hx)
 unfold Bk;rw [this];rfl
theorem oT {o:List Int} {F G:Int→Ln} (h:∀ p,p∈o→F p=G p):AQ o F=AQ o G:=by
 unfold AQ;exact List.map_congr_left fun x hx=>by rw [h x hx]
theorem sw {o : List Int} {F : Int → Ln} {p : Int} {n : Nat} (hn : o.length ≤ n) {G : (List Ac → Option (List PV)) → List PV → Option (List PV)} {k : Nat → List Ac} {R : List PV} {Q : Nat → List PV}
    (h0:∀ self,G self ((k o.length).map Leaf.pv)=some R)
    (h1:∀ i self,i<o.length→G self ((k i).map Leaf.pv)=cond (o.getD i 0==p) (some (Q i)) (self (k (i+1)))) :
    ∀ (f i:Nat),o.length - i<f→i≤Al p o→ES G f ((k i).map Leaf.pv)=some (cond (Nat.blt (Al p o) o.length) (Q (Al p o)) R):=by
  have below:∀ i,i<Al p o→(o.getD i 0==p)=false:=fun i hi=>by
    have go:∀ (o:List Int) (i:Nat),i<Al p o→(o.getD i 0==p)=false:=fun o=>by
      induction o with
      | nil=>intro i hi;exact absurd hi (Nat.not_lt_zero _)
      | cons q r ih =>
        intro i hi;unfold Al at hi;cases hq:q==p with
        | true=>rw [hq] at hi;exact absurd hi (Nat.not_lt_zero _)
        | false =>
          rw [hq,cond_false] at hi;cases i with
          | zero=>exact hq
          | succ i=>exact ih i (Nat.lt_of_succ_lt_succ hi)
    exact go o i hi
  intro f
  induction f with
  | zero=>intro i hf;exact absurd hf (Nat.not_lt_zero _)
  | succ f ih =>
    intro i hf hi;have pl:=ABs p o
    by_cases hlt:i<o.length
    · show G _ _=_;rw [h1 i _ hlt]
      by_cases hp:i=Al p o
      · obtain ⟨_,h2⟩:=GN (cM.1 (hp▸hlt));rw [hp,h2,beq_self_eq_true,cond_true,show Nat.blt (Al p o) o.length=true from Nat.ble_eq_true_of_le (hp▸hlt)];rfl
      · rw [below i (by omega),cond_false];exact ih (i+1) (by omega) (by omega)
    · have e:Al p o=o.length:=by omega
      have e2:i=o.length:=by omega
      show G _ _=_;rw [e2,h0,e,show Nat.blt o.length o.length=false by
        cases hb:Nat.blt o.length o.length with
        | false=>rfl
        | true=>exact absurd (Nat.le_of_ble_eq_true hb) (Nat.lt_irrefl _)]
      rfl
def BP (o:List Int) (p:Int):List Int:=cond (Nat.blt (Al p o) o.length) o (o++[p])
theorem Jp {p:Int} {o:List Int}:Nat.blt (Al p o) o.length=true↔p∈o:=⟨fun h=>cM.1 (Nat.le_of_ble_eq_true h),fun h=>Nat.ble_eq_true_of_le (cM.2 h)⟩
theorem Ii {o:List Int} {p:Int} (h:o.Nodup):(BP o p).Nodup:=by
 unfold BP;cases hb:Nat.blt (Al p o) o.length with
 | true=>exact h
 | false =>
  rw [cond_false];refine List.nodup_append.2 ⟨h,List.nodup_cons.2 ⟨List.not_mem_nil,List.nodup_nil⟩,fun x hx y hy e=>?_⟩;have hy:=List.mem_singleton.1 hy;rw [e,hy] at hx;have:=Jp.2 hx;rw [hb] at this;cases this
theorem L1 {o:List Int} {p q:Int}:q∈BP o p↔q∈o∨q=p:=by
 unfold BP;cases hb:Nat.blt (Al p o) o.length with
 | true =>
  have:=Jp.1 hb;exact ⟨fun h=>.inl h,fun h=>h.elim id fun e=>e▸this⟩
 | false=>rw [cond_false,List.mem_append,List.mem_singleton]
theorem U2 (o:List Int) (p:Int):(BP o p).length≤o.length+1:=by
 unfold BP;cases Nat.blt (Al p o) o.length
 ·rw [cond_false,List.length_append];exact Nat.le_refl _
 ·exact Nat.le_succ _
def na (F:Int→Ln) (o:List Int) (p:Int) (b:Bool):Int→Ln:=Bk F p (cond (Nat.blt (Al p o) o.length) { F p with batted:=(F p).batted||b } { ln0 with batted:=b })
def A8 (L:Rows):Nat→List Int
 | 0=>[]
 | n+1=>cond ((evR L n).kind==2) (BP (BP (A8 L n) (evR L n).player) (evR L n).other) (cond ((evR L n).kind==5) (BP (A8 L n) (evR L n).player) (A8 L n))
def CA (L:Rows) (p:Int):Nat→Bool
 | 0=>false
 | n+1=>CA L p n||cond ((evR L n).kind==2) (p==(evR L n).player||p==(evR L n).other) (cond ((evR L n).kind==5) (p==(evR L n).player && !(evR L n).yes) false)
def Iz (o:List Int):Nat→List Int
 | 0=>o
 | n+1=>BP (Iz o n) ((n:Int)+1)
theorem Uy (L:Rows):∀ n,(A8 L n).Nodup
 | 0=>List.nodup_nil
 | n+1=>by
  have ih:=Uy L n;unfold A8;cases (evR L n).kind==2 with
  | true=>exact Ii (Ii ih)
  | false =>
   cases (evR L n).kind==5 with
   | true=>exact Ii ih
   | false=>exact ih
theorem OD (L:Rows):∀ n,(A8 L n).length≤2 * n
 | 0=>Nat.le_refl _
 | n+1=>by
  have ih:=OD L n;unfold A8;cases (evR L n).kind==2 with
  | true =>
   have h1:=U2 (A8 L n) (evR L n).player;have h2:=U2 (BP (A8 L n) (evR L n).player) (evR L n).other;show (BP _ _).length≤_;omega
  | false =>
   cases (evR L n).kind==5 with
   | true =>
    have h1:=U2 (A8 L n) (evR L n).player;show (BP _ _).length≤_;omega
   | false=>show (A8 L n).length≤_;omega
theorem bE {o:List Int} (h:o.Nodup):∀ n,(Iz o n).Nodup
 | 0=>h
 | n+1=>Ii (bE h n)
theorem WW (o:List Int):∀ n,(Iz o n).length≤o.length+n
 | 0=>Nat.le_refl _
 | n+1=>by
  have:=WW o n;have h2:=U2 (Iz o n) ((n:Int)+1);show (BP _ _).length≤_;omega
theorem lY {o:List Int} {p:Int}:∀ {n:Nat},p∈Iz o n↔p∈o∨(1≤p∧p≤(n:Int))
 | 0=>by
  show p∈o↔_;constructor
  ·exact .inl
  ·rintro (h | h)
   ·exact h
   ·omega
 | n+1=>by
  show p∈BP (Iz o n) ((n:Int)+1)↔_;rw [L1,lY];constructor
  ·rintro ((h | h) | h)
   ·exact .inl h
   ·exact .inr (by omega)
   ·exact .inr (by omega)
  ·rintro (h | h)
   ·exact .inl (.inl h)
   ·by_cases e:p=(n:Int)+1
    ·exact .inr e
    ·exact .inl (.inr (by omega))
theorem V6 {o:List Int} {F:Int→Ln} {i:Nat} (h:i<o.length):pvI (AJ (AQ o F) i 0)=o.getD i 0:=by
 unfold AJ;rw [wL h];rfl
set_option maxHeartbeats 1000000 in
theorem DN {N:Nat} {o:List Int} {F:Int→Ln} {p:Int} (ho:o.length≤1048576) (hN:2097152<N):CJ N [.rows (AQ o F),.rows [[.int p]]]=some [.int (cond (Nat.blt (Al p o) o.length) (Al p o:Int) (-1))]:=by
 show CH (std (B8 N) N) (xOf _)=_;simp only [CH,lq9,std,xOf,PXb];refine AN (sw (o:=o) (F:=F) (p:=p) (n:=o.length) (Nat.le_refl _) (k:=fun i=>[.int (i:Int)]) (R:=[.int 1]) (Q:=fun i=>[.int 0,.int (i:Int)]) ?_ ?_ N 0 (by omega) (Nat.zero_le _)) ?_
 ·intro self;simp only [PXb,PXc,PXn,AD,Bv,Aj,List.map_cons,List.map_nil,Leaf.pv]
 ·intro i self hi;simp only [PXb,PXc,PXn,AD,Bv,Bt (show i≤1099511627776 by omega),Ad hi,AM hi,V6 hi,List.map_cons,List.map_nil,Leaf.pv];rfl
 ·cases Nat.blt (Al p o) o.length<;>rfl
theorem ACT {o : List Int} {F : Int → Ln} {p : Int} {N : Nat} (hN : o.length < N) {G : (List Ac → Option (List PV)) → List PV → Option (List PV)} {k1 k2 : List PV → Option (List PV)} {g : Option (List PV)}
    (h0:∀ self,G self [.int (o.length:Int),.int p]=some [.int 1,.int p])
    (h1:∀ i self,i<o.length→G self [.int (i:Int),.int p]=cond (o.getD i 0==p) (some [.int 0,.int (i:Int),.int p]) (self [.int ((i+1:Nat):Int),.int p]))
    (hk:(k1 (cond (Nat.blt (Al p o) o.length) [.int 0,.int (Al p o:Int),.int p] [.int 1,.int p])).bind k2=g):((ES G N [.int 0,.int p]).bind k1).bind k2=g:=by
  have:=sw (o:=o) (F:=F) (p:=p) (n:=o.length) (Nat.le_refl _) (k:=fun i=>[.int (i:Int),.int p]) (R:=[.int 1,.int p]) (Q:=fun i=>[.int 0,.int (i:Int),.int p]) (G:=G) h0 h1 N 0 (by omega) (Nat.zero_le _);have e:ES G N [.int 0,.int p]=some (cond (Nat.blt (Al p o) o.length) [.int 0,.int (Al p o:Int),.int p] [.int 1,.int p]):=this;rw [e];exact hk
theorem AE3 {p:Int} {o:List Int} (h:p∉o):Al p (o++[p])=o.length:=by
 induction o with
 | nil=>show Al p [p]=0;unfold Al;rw [beq_self_eq_true];rfl
 | cons q r ih =>
  show Al p (q::(r++[p]))=_;unfold Al;have hq:(q==p)=false:=beq_eq_false_iff_ne.2 fun e=>h (e▸zzl)
  rw [hq];exact congrArg (·+1) (ih fun hm=>h (zzm _ hm))
def Er (B:Int→Bool) (p:Int):Ln:={ ln0 with batted:=B p }
theorem rO {o:List Int} {B:Int→Bool} {p:Int} {b:Bool} (hB:∀ q,q∉o→B q=false):na (Er B) o p b=Er fun q=>B q||(q==p&&b):=funext fun q=>by
 have e:Er (fun q=>B q||(q==p&&b)) q={ ln0 with batted:=B q||(q==p&&b) }:=rfl;rw [e];unfold na Bk;cases hq:q==p with
 | true =>
  have e:=beq_iff_eq.1 hq;subst e;rw [Bool.true_and,cond_true];cases hb:Nat.blt (Al q o) o.length with
  | true=>rfl
  | false =>
   have:B q=false:=hB q fun hm=>by rw [Jp.2 hm] at hb;cases hb
   rw [this];rfl
 | false =>
  rw [cond_false,Bool.false_and,Bool.or_false];rfl
theorem aM {L:Rows} {p:Int}:∀ n,p∉A8 L n→CA L p n=false
 | 0,_=>rfl
 | n+1,h=>by
  unfold A8 at h;unfold CA;cases h2:(evR L n).kind==2 with
  | true =>
   rw [h2,cond_true] at h;have h3:¬ (p∈BP (A8 L n) (evR L n).player∨p=(evR L n).other):=fun hc=>h (L1.2 hc)
   have h4:¬ (p∈A8 L n∨p=(evR L n).player):=fun hc=>h3 (.inl (L1.2 hc))
   rw [aM n (fun hc=>h4 (.inl hc)),cond_true,beq_eq_false_iff_ne.2 (fun e=>h4 (.inr e)),beq_eq_false_iff_ne.2 (fun e=>h3 (.inr e))];rfl
  | false =>
   rw [h2,cond_false] at h;cases h5:(evR L n).kind==5 with
   | true =>
    rw [h5,cond_true] at h;have h4:¬ (p∈A8 L n∨p=(evR L n).player):=fun hc=>h (L1.2 hc)
    rw [aM n (fun hc=>h4 (.inl hc)),beq_eq_false_iff_ne.2 (fun e=>h4 (.inr e))];rfl
   | false =>
    rw [h5,cond_false] at h;rw [aM n h];rfl
def ADb (L:Rows) (n:Nat):Rows:=AQ (A8 L n) (Er fun p=>CA L p n)
def qQ (L:Rows) (k:Nat):Rows:=AQ (Iz (A8 L L.length) k) (Er fun p=>CA L p L.length)
theorem vT {o:List Int} {B:Int→Bool} {p:Int} (hB:∀ q,q∉o→B q=false):na (Er B) o p true=Er fun q=>B q||q==p:=by
 have e:(fun q:Int=>B q||(q==p&&true))=fun q=>B q||q==p:=funext fun q=>by rw [Bool.and_true]
 rw [rO hB,e]
def WP (F:Int→Ln) (o:List Int) (p:Int):Int→Ln:=cond (Nat.blt (Al p o) o.length) F (Bk F p ln0)
theorem ADT {o:List Int} {F:Int→Ln} {p:Int}:AQ (BP o p) (WP F o p)=cond (Nat.blt (Al p o) o.length) (AQ o F) (AQ o F++[lnR p ln0]):=by
 unfold BP WP;cases hb:Nat.blt (Al p o) o.length with
 | true=>rfl
 | false =>
  have hm:p∉o:=fun hm=>by rw [Jp.2 hm] at hb;cases hb
  exact (AD6 o F p ln0 hm).symm
theorem oA (o:List Int) (p:Int):p∈BP o p:=L1.2 (.inr rfl)
theorem AEk {o:List Int} {p:Int}:Al p (BP o p)=cond (Nat.blt (Al p o) o.length) (Al p o) o.length:=by
 unfold BP;cases hb:Nat.blt (Al p o) o.length with
 | true=>rfl
 | false =>
  have hm:p∉o:=fun hm=>by rw [Jp.2 hm] at hb;cases hb
  exact AE3 hm
theorem bG {o:List Int} {F:Int→Ln} {p:Int} {b:Bool}:Bk (WP F o p) p { WP F o p p with batted:=(WP F o p p).batted||b }=na F o p b:=by
 unfold WP na;cases hb:Nat.blt (Al p o) o.length with
 | true=>rfl
 | false =>
  rw [cond_false,RX,Il];rfl
theorem jS {o : List Int} {F : Int → Ln} {p : Int} {N : Nat} (hN : o.length < N) (hl : o.length ≤ 100000) {G : (List Ac → Option (List PV)) → List PV → Option (List PV)} {K3 : List PV → Option (List PV)} {g : Option (List PV)}
    (h0:∀ self,G self [.int (o.length:Int),.int p]=some [.int 1,.int p])
    (h1:∀ i self,i<o.length→G self [.int (i:Int),.int p]=cond (o.getD i 0==p) (some [.int 0,.int (i:Int),.int p]) (self [.int ((i+1:Nat):Int),.int p]))
    (hk:K3 [.int (Al p (BP o p):Int),.rows (AQ (BP o p) (WP F o p))]=g) :
    ((ES G N [PV.int 0,PV.int p]).bind fun c1=>bif pvI (AA c1 0)==((0:Nat):Int) then some [PV.int (pvI (AA c1 1)),PV.int (pvI (AA c1 2))] else some [PV.int (-1),PV.int (pvI (AA c1 1))]).bind
      (fun c1=>(bif iLt (pvI (AA c1 0)) 0 then bif iSm (((AQ o F++[[PV.int (pvI (AA c1 1)),PV.int 0,PV.int 0,PV.int 0,PV.int 0,PV.bool false,PV.int 0,PV.int 0,PV.int 0,PV.bool false]]).length:Nat):Int) 72 then some [PV.int (IntKind.i64.wrap ((((AQ o F++[[PV.int (pvI (AA c1 1)),PV.int 0,PV.int 0,PV.int 0,PV.int 0,PV.bool false,PV.int 0,PV.int 0,PV.int 0,PV.bool false]]).length:Nat):Int) - 1)),PV.rows (AQ o F++[[PV.int (pvI (AA c1 1)),PV.int 0,PV.int 0,PV.int 0,PV.int 0,PV.bool false,PV.int 0,PV.int 0,PV.int 0,PV.bool false]])] else none else some [PV.int (pvI (AA c1 0)),PV.rows (AQ o F)]).bind K3)=g:=by
  refine ACT (F:=F) hN h0 h1 ?_;rw [ADT,AEk] at hk;cases hb:Nat.blt (Al p o) o.length with
  | true =>
    simp only [hb,cond_true] at hk;have e:iLt (Al p o:Int) 0=false:=by simp only [iLt,decide_eq_false_iff_not];omega
    simp only [PXb,PXc,PXn,AD,e];exact hk
  | false =>
    simp only [hb,cond_false] at hk;have ll:(AQ o F++[lnR p ln0]).length=o.length+1:=by rw [List.length_append,Bv];rfl
    have e2:iSm (((AQ o F++[lnR p ln0]).length:Nat):Int) 72=true:=by rw [ll];exact DJ (by omega) (by omega)
    have e3:IntKind.i64.wrap ((((AQ o F++[lnR p ln0]).length:Nat):Int) - 1)=(o.length:Int):=by
      rw [ll,CK (by omega) (by omega)];omega
    have e4:iLt (-1) 0=true:=rfl;have e5:[PV.int p,PV.int 0,PV.int 0,PV.int 0,PV.int 0,PV.bool false,PV.int 0,PV.int 0,PV.int 0,PV.bool false]=lnR p ln0:=rfl;have q:((1:Int)==((0:Nat):Int))=false:=rfl;simp only [PXb,PXc,PXn,AD,q,e4];rw [e5,e2,e3];exact hk
theorem AD5 {o:List Int} {F:Int→Ln} {p:Int} (h:p∈o):pvB (AJ (AQ o F) (Al p o) 9)=(F p).batted:=by unfold AJ;rw [ra h];rfl
theorem xz {o : List Int} {F : Int → Ln} {p : Int} {b : Bool} (hn : o.Nodup) (h : p ∈ o) :
    (AQ o F).set (Al p o) (BE (AO (AQ o F) (Al p o)) 9 [.bool (pvB (AJ (AQ o F) (Al p o) 9)||b)])=AQ o (Bk F p { F p with batted:=(F p).batted||b }):=by
  rw [AD5 h,Fo (v:={ F p with batted:=(F p).batted||b }) hn h rfl]
theorem ACx {o : List Int} {F : Int → Ln} {p : Int} (hn : o.Nodup) (h : p ∈ o) :
    (AQ o F).set (Al p o) (BE (AO (AQ o F) (Al p o)) 9 [.bool (pvB (AJ (AQ o F) (Al p o) 9))])=AQ o (Bk F p { F p with batted:=(F p).batted||false }):=by
  have:=xz (b:=false) hn h (F:=F);rw [Bool.or_false] at this;exact this
set_option maxHeartbeats 8000000 in
theorem nY {N:Nat} {r1 r2 r3 r4 r5 r6 r7 r9 r10 r11 r12:Int} {r8:Bool} {r0:ByteArray} {r13:Rows} {L:Rows} (hN:2097152<N) (hL:L.length≤4000) (h0:0≤r1) (h1:r1≤100):KO N [.str r0,.int r1,.int r2,.int r3,.int r4,.int r5,.int r6,.int r7,.bool r8,.int r9,.int r10,.int r11,.int r12,.rows r13,.rows L]=some [.rows (qQ L r1.toNat)]:=by
 show KH (std (Tt N) N) (xOf _)=_;simp only [KH,lq9,std,xOf,PXb];refine AN (BV (len:=L.length) (fun i=>[.int (i:Int),.rows (ADb L i)]) [.rows (ADb L L.length)] ?_ ?_ N (by omega)) ?_
 ·intro self;simp only [PXb,PXc,PXn,AD,Aj]
 ·intro i self hi;have on:=Uy L i;have ol:=OD L i;have wi:IntKind.i64.wrap ((i:Int)+1)=((i+1:Nat):Int):=Bt (show i≤1099511627776 by omega);simp only [PXb,PXc,PXn,AD,Ad hi,AM hi,ADb];have kk:(evR L i).kind=pvI (AJ L i 0):=rfl;have kp:(evR L i).player=pvI (AJ L i 2):=rfl;have ko:(evR L i).other=pvI (AJ L i 3):=rfl;have ky:(evR L i).yes=pvB (AJ L i 4):=rfl;have eo:A8 L (i+1)=cond ((evR L i).kind==2) (BP (BP (A8 L i) (evR L i).player) (evR L i).other) (cond ((evR L i).kind==5) (BP (A8 L i) (evR L i).player) (A8 L i)):=rfl;rw [eo,kk];have no:∀ q,q∉A8 L i→CA L q i=false:=fun q hq=>aM i hq
  cases h2:pvI (AJ L i 0)==2 with
  | true =>
   rw [cond_true,cond_true,← kp,← ko];refine jS (by omega) (by omega) ?_ ?_ ?_
   ·intro self;simp only [PXb,PXc,PXn,AD,Bv,Aj]
   ·intro j self hj;simp only [PXb,PXc,PXn,AD,Bv,Bt (show j≤1099511627776 by omega),Ad hj,AM hj,V6 hj]
   ·have i1:=oA (A8 L i) (evR L i).player;have n1:=Ii (p:=(evR L i).player) on;have l1:=U2 (A8 L i) (evR L i).player;simp only [PXb,PXc,PXn,AD,Bv,AM (GN i1).1,Int.toNat_natCast];rw [Fo (v:={ WP (Er fun p=>CA L p i) (A8 L i) (evR L i).player (evR L i).player with batted:=true }) n1 i1 rfl];have a1:Bk (WP (Er fun p=>CA L p i) (A8 L i) (evR L i).player) (evR L i).player { WP (Er fun p=>CA L p i) (A8 L i) (evR L i).player (evR L i).player with batted:=true }=Er fun q=>CA L q i||q==(evR L i).player:=by
     have:=bG (o:=A8 L i) (F:=Er fun p=>CA L p i) (p:=(evR L i).player) (b:=true);rw [Bool.or_true,vT no] at this;exact this
    rw [a1];refine jS (by omega) (by omega) ?_ ?_ ?_
    ·intro self;simp only [PXb,PXc,PXn,AD,Bv,Aj]
    ·intro j self hj;simp only [PXb,PXc,PXn,AD,Bv,Bt (show j≤1099511627776 by omega),Ad hj,AM hj,V6 hj]
    ·have i2:=oA (BP (A8 L i) (evR L i).player) (evR L i).other;have n2:=Ii (p:=(evR L i).other) n1;simp only [PXb,PXc,PXn,AD,Bv,AM (GN i2).1,Int.toNat_natCast];rw [Fo (v:={ WP (Er fun q=>CA L q i||q==(evR L i).player) (BP (A8 L i) (evR L i).player) (evR L i).other (evR L i).other with batted:=true }) n2 i2 rfl];have no2:∀ q,q∉BP (A8 L i) (evR L i).player→(CA L q i||q==(evR L i).player)=false:=fun q hq=>by
      have hq2:¬ (q∈A8 L i∨q=(evR L i).player):=fun hc=>hq (L1.2 hc)
      rw [no q (fun hc=>hq2 (.inl hc)),beq_eq_false_iff_ne.2 (fun e=>hq2 (.inr e))];rfl
     have a2:=bG (o:=BP (A8 L i) (evR L i).player) (F:=Er fun q=>CA L q i||q==(evR L i).player) (p:=(evR L i).other) (b:=true);rw [Bool.or_true,vT no2] at a2;rw [a2,wi];have a3:(fun q=>(CA L q i||q==(evR L i).player)||q==(evR L i).other)=fun q=>CA L q (i+1):=funext fun q=>by
      show _=(CA L q i||cond ((evR L i).kind==2) (q==(evR L i).player||q==(evR L i).other) _);rw [show ((evR L i).kind==2)=true from h2,cond_true,Bool.or_assoc]
     rw [a3]
  | false =>
   cases h5:pvI (AJ L i 0)==5 with
   | true =>
    rw [cond_false,cond_true,cond_false,cond_true,← kp];refine jS (by omega) (by omega) ?_ ?_ ?_
    ·intro self;simp only [PXb,PXc,PXn,AD,Bv,Aj]
    ·intro j self hj;simp only [PXb,PXc,PXn,AD,Bv,Bt (show j≤1099511627776 by omega),Ad hj,AM hj,V6 hj]
    ·have i1:=oA (A8 L i) (evR L i).player;have n1:=Ii (p:=(evR L i).player) on;simp only [PXb,PXc,PXn,AD,Bv,AM (GN i1).1,Int.toNat_natCast];rw [xz n1 i1,bG,rO no,wi,← ky];have a3:(fun q=>CA L q i||(q==(evR L i).player && !(evR L i).yes))=fun q=>CA L q (i+1):=funext fun q=>by
      show _=(CA L q i||cond ((evR L i).kind==2) _ (cond ((evR L i).kind==5) (q==(evR L i).player && !(evR L i).yes) false));rw [show ((evR L i).kind==2)=false from h2,show ((evR L i).kind==5)=true from h5];rfl
     rw [a3]
   | false =>
    rw [cond_false,cond_false,cond_false,cond_false,wi];have a3:(fun q=>CA L q i)=fun q=>CA L q (i+1):=funext fun q=>by
     show _=(CA L q i||cond ((evR L i).kind==2) _ (cond ((evR L i).kind==5) _ false));rw [show ((evR L i).kind==2)=false from h2,show ((evR L i).kind==5)=false from h5];exact (Bool.or_false _).symm
    rw [a3]
 ·have on:=Uy L L.length;have ol:=OD L L.length;have no:∀ q,q∉A8 L L.length→CA L q L.length=false:=fun q hq=>aM L.length hq
  obtain ⟨k,hk⟩:∃ k:Nat,r1=(k:Int):=⟨r1.toNat,by omega⟩;subst hk;rw [Int.toNat_natCast];simp only [PXb,PXc,PXn,AD];refine AN (BV (len:=k) (fun j=>[.int ((j:Int)+1),.rows (qQ L j)]) [.rows (qQ L k)] ?_ ?_ N (by omega)) rfl
  ·intro self;have e:iLe ((k:Int)+1) (k:Int)=false:=by simp only [iLe,decide_eq_false_iff_not];omega
   simp only [PXb,PXc,PXn,AD,e]
  ·intro j self hj;have e:iLe ((j:Int)+1) (k:Int)=true:=by simp only [iLe,decide_eq_true_eq];omega
   have jn:=bE on j;have jl:=WW (A8 L L.length) j;have no3:∀ q,q∉Iz (A8 L L.length) j→CA L q L.length=false:=fun q hq=>no q fun hc=>hq (lY.2 (.inl hc))
   have eo:qQ L (j+1)=AQ (BP (Iz (A8 L L.length) j) ((j:Int)+1)) (Er fun p=>CA L p L.length):=rfl;rw [eo];simp only [PXb,PXc,PXn,AD,e,qQ];refine jS (by omega) (by omega) ?_ ?_ ?_
   ·intro self;simp only [PXb,PXc,PXn,AD,Bv,Aj]
   ·intro i self hi;simp only [PXb,PXc,PXn,AD,Bv,Bt (show i≤1099511627776 by omega),Ad hi,AM hi,V6 hi]
   ·have i1:=oA (Iz (A8 L L.length) j) ((j:Int)+1);have n1:=Ii (p:=(j:Int)+1) jn;have wj:IntKind.i64.wrap ((j:Int)+1+1)=((j+1:Nat):Int)+1:=by rw [CK (by omega) (by omega)];omega
    have a3:(fun q=>CA L q L.length||(q==(j:Int)+1&&false))=fun q=>CA L q L.length:=funext fun q=>by rw [Bool.and_false,Bool.or_false]
    simp only [PXb,PXc,PXn,AD,Bv,AM (GN i1).1,Int.toNat_natCast];rw [ACx n1 i1,bG,rO no3,a3,wj]
theorem qU {p:Int} {n:Nat}:inR p n=true↔1≤p∧p≤(n:Int):=by
 unfold inR;simp only [iLe,zzj,decide_eq_true_eq]
theorem AFH {s:Inn} {p q:Int} (h:((MC s p q).2==0)=true):inR p s.batters.length=true∧inR q s.batters.length=true:=by
 unfold MC at h;cases hb:Bz s.batters with
 | true=>rw [hb] at h;cases h
 | false =>
  cases hp:inR p s.batters.length with
  | false=>rw [hb,hp] at h;cases h
  | true =>
   cases hq:inR q s.batters.length with
   | false=>rw [hb,hp,hq] at h;cases h
   | true=>exact ⟨rfl,rfl⟩
structure EvIn (r:Rul) (e:Ev):Prop where
 op:e.kind=2→(1≤e.player∧e.player≤r.side)∧(1≤e.other∧e.other≤r.side)
 en:e.kind=5→1≤e.player∧e.player≤r.side
 re:e.kind=6→1≤e.player∧e.player≤r.side
theorem ABC {r:Rul} {s:Inn} {e:Ev} (hl:(s.batters.length:Int)=r.side) (h:((BO r s e).2==0)=true):EvIn r e:=by
 unfold BO at h;refine ⟨fun k=>?_,fun k=>?_,fun k=>?_⟩
 ·rw [k] at h;have h:((MC s e.player e.other).2==0)=true:=h;obtain ⟨a,b⟩:=AFH h;rw [qU,hl] at a b;exact ⟨a,b⟩
 ·rw [k] at h;have h:((cond e.yes (Db s e.player) (IM s e.player)).2==0)=true:=h;have m:(GK s e.player==0)=true:=by
   cases hm:GK s e.player==0 with
   | true=>rfl
   | false =>
    cases hy:e.yes with
    | true=>rw [hy] at h;unfold Db at h;rw [hm] at h;rw [show (GK s e.player==0)=true from h] at hm;cases hm
    | false=>rw [hy] at h;unfold IM at h;rw [hm] at h;rw [show (GK s e.player==0)=true from h] at hm;cases hm
  have:=TD m;rw [qU,hl] at this;exact this
 ·rw [k] at h;have h:((D5 s e.player e.yes).2==0)=true:=h;have:=(ACp h).1;rw [qU,hl] at this;exact this
theorem zZ {r:Rul} {s:Inn} {e:Ev} (h:((Av r s e).2==0)=true):EvIn r e:=by
 obtain ⟨hv,he,hn,hw,hp,hs⟩:=U3 h;exact ABC (Ke.1 hv).lb hp
theorem AFD {r:Rul} {e:Ev} (h2:(e.kind==2)=false) (h5:(e.kind==5)=false) (h6:(e.kind==6)=false):EvIn r e where
 op k:=by rw [k] at h2;cases h2
 en k:=by rw [k] at h5;cases h5
 re k:=by rw [k] at h6;cases h6
theorem mE {m:Mat} {b:Bool} {x:Mat×Int} (h:((cond (!b) (m,1) x).2==0)=true):b=true∧(x.2==0)=true:=by
 cases b with
 | false=>cases h
 | true=>exact ⟨rfl,h⟩
theorem wu {m:Mat} {t:Int} {x:Mat×Int} (h:((cond (!(t==0)) (m,t) x).2==0)=true):(t==0)=true:=by
 cases ht:t==0 with
 | true=>rfl
 | false =>
  rw [ht] at h;rw [show (t==0)=true from h] at ht;cases ht
theorem AEy {m:Mat} {e:Ev} (h:((Dx m e).2==0)=true):EvIn m.rules e:=by
 unfold Dx at h;exact zZ (wu h)
theorem ADm {m:Mat} {e:Ev} (h:((CM m e).2==0)=true):EvIn m.rules e:=by
 obtain ⟨hv,he,h5,ha,hs⟩:=cd h;unfold GG at ha;have go:∀ k,e.kind=k→(k==1)=false→(k==2)=false→(k==12)=false→(k==16)=false→EvIn m.rules e:=fun k hk a b c d=>by
  rw [hk,a,b,c,d] at ha;have ha:((cond (!(m.stage==3)) (m,1) (Dx m e)).2==0)=true:=ha;exact AEy (mE ha).2
 cases k2:e.kind==2 with
 | true =>
  have k:=beq_iff_eq.1 k2;rw [k] at ha;have ha:((cond (!(m.stage==2)) (m,1) (SN m e)).2==0)=true:=ha;have ha:=(mE ha).2;unfold SN at ha;exact zZ (wu (mE ha).2)
 | false =>
  cases k5:e.kind==5 with
  | true=>exact go 5 (beq_iff_eq.1 k5) rfl rfl rfl rfl
  | false =>
   cases k6:e.kind==6 with
   | true=>exact go 6 (beq_iff_eq.1 k6) rfl rfl rfl rfl
   | false=>exact AFD k2 k5 k6
theorem AEV {r:Rul} {L:Rows} (hc:B6 r L=0) {a:Nat} (ha:a<L.length):EvIn r (evR L a):=by
 obtain ⟨h1,h2,h3,h4,h5⟩:=DT hc;obtain ⟨li,so,_⟩:=RV h1 h4 a (by omega);have a0:=Sd L.length 0 _ h4 a ha;rw [Nat.zero_add] at a0;have q:=(WH a0).1;rw [q] at a0;have:=ADm a0;rw [so.rules] at this;exact this
def Da (x:List PV):Int:=cond (pvI (AA x 14)==0) 0 (cond (pvI (AA x 15)==1) (pvI (AA x 5)) (cond (pvI (AA x 15)==2) (pvI (AA x 6)) 0))
def AAa (x:List PV):Bool:=pvI (AA x 9)==1&&pvI (AA x 10)==0
def P0 (x:List PV) (l:Ln):Ln:={ l with runs:=IntKind.i64.wrap (l.runs+pvI (AA x 20)),balls:=cond (pvB (AA x 27)) (IntKind.i64.wrap (l.balls+1)) l.balls,fours:=cond (AAa x&&pvI (AA x 12)==4) (IntKind.i64.wrap (l.fours+1)) l.fours,sixes:=cond (AAa x&&pvI (AA x 12)==6) (IntKind.i64.wrap (l.sixes+1)) l.sixes }
def AAy (x:List PV) (l:Ln):Ln:={ l with out:=true,how:=pvI (AA x 14),fielder:=pvI (AA x 16),bowler:=cond (pvB (AA x 28)) (pvI (AA x 4)) l.bowler }
def J9 (x:List PV) (p:Int) (l:Ln):Ln:=cond (Da x==p) (AAy x (cond (pvI (AA x 5)==p) (P0 x l) l)) (cond (pvI (AA x 5)==p) (P0 x l) l)
def dLn (k:Int) (D:Rows) (F:Int→Ln):Nat→Int→Ln
 | 0,p=>F p
 | n+1,p=>cond (pvI (AJ D n 1)==k) (J9 (AO D n) p (dLn k D F n p)) (dLn k D F n p)
def evL (e:Ev) (p:Int) (l:Ln):Ln:=cond (e.kind==5&&e.yes) (cond (e.player==p) { l with out:=true,how:=9 } l) (cond (e.kind==6 && !e.yes) (cond (e.player==p) { l with out:=true,how:=10 } l) l)
def eLn (E:Rows) (F:Int→Ln):Nat→Int→Ln
 | 0,p=>F p
 | n+1,p=>evL (evR E n) p (eLn E F n p)
def I6 (r:Rul) (L:Rows) (k:Int):Rows×Int:=cond ((Cs r L k).2==0)
  (AQ (Iz (A8 (Ce L k.toNat) (Ce L k.toNat).length) r.side.toNat) (eLn (Ce L k.toNat) (dLn k (BC r L) (Er fun p=>CA (Ce L k.toNat) p (Ce L k.toNat).length) (BC r L).length) (Ce L k.toNat).length),0) ([],(Cs r L k).2)
theorem iG {N:Nat} {a:Int} {b:Int} {c:Int} {d:Int} {f:Int} {x:Bool} {h:Int} {v:Int} {i:Int} {j:Int} {y:Bool} {g:Int} {p:Int} {q:Int}  : Gq N [.int a,.int b,.int c,.int d,.int f,.bool x,.int h,.int v,.int i,.int j,.bool y,.int g,.int p,.int q]=some [.int (cond (h==0) 0 (cond (v==1) p (cond (v==2) q 0)))]:=by
 show Gn (std (O0 N) N) (xOf _)=_;simp only [Gn,lq9,std,xOf,PXb];cases h==0<;>cases v==1<;>cases v==2<;>rfl
theorem vG {N:Nat} {a:Int} {b:Int} {c:Int} {d:Int} {f:Int} {x:Bool} {h:Int} {v:Int} {i:Int} {j:Int} {y:Bool} {g:Int} {p:Int} {q:Int}  : LM N [.int a,.int b,.int c,.int d,.int f,.bool x,.int h,.int v,.int i,.int j,.bool y,.int g,.int p,.int q]=some [.int (cond (h==0) 0 (cond (v==1) p (cond (v==2) q 0)))]:=by
 show PT (std (aE N) N) (xOf _)=_;simp only [PT,lq9,std,xOf,PXb];cases h==0<;>cases v==1<;>cases v==2<;>rfl
theorem AE0 {r:Rul} {L:Rows} (hc:B6 r L=0) {a:Nat} (ha:a<L.length) (hk:((evR L a).kind==4)=true) (t:Mat):Da (E8 (a:Int) (stM L a 0 (AU r).1) t (evR L a).ball)=0∨(1≤Da (E8 (a:Int) (stM L a 0 (AU r).1) t (evR L a).ball)∧Da (E8 (a:Int) (stM L a 0 (AU r).1) t (evR L a).ball)≤r.side):=by
 have bf:=wX hc ha hk;have st:=bf.ok.st;have ot:=bf.ok.ot;have e:Da (E8 (a:Int) (stM L a 0 (AU r).1) t (evR L a).ball)=cond ((evR L a).ball.how==0) 0 (cond ((evR L a).ball.victim==1) (AY (stM L a 0 (AU r).1)).striker (cond ((evR L a).ball.victim==2) (AY (stM L a 0 (AU r).1)).other 0)):=rfl;rw [e];cases (evR L a).ball.how==0 with
 | true=>exact .inl rfl
 | false =>
  cases (evR L a).ball.victim==1 with
  | true=>show (AY (stM L a 0 (AU r).1)).striker=0∨(1≤(AY (stM L a 0 (AU r).1)).striker∧(AY (stM L a 0 (AU r).1)).striker≤r.side);omega
  | false =>
   cases (evR L a).ball.victim==2 with
   | true=>show (AY (stM L a 0 (AU r).1)).other=0∨(1≤(AY (stM L a 0 (AU r).1)).other∧(AY (stM L a 0 (AU r).1)).other≤r.side);omega
   | false=>exact .inl rfl
theorem zM {r:Rul} {L:Rows} (hc:B6 r L=0):∀ n,n≤L.length→∀ x,x∈NZ L n 0 (AU r).1 []→RowF r x∧(Da x=0∨(1≤Da x∧Da x≤r.side))
 | 0,_,x,hx=>absurd hx List.not_mem_nil
 | n+1,hn,x,hx=>by
  have ih:=zM hc n (by omega);rw [aq,Nat.zero_add] at hx;cases hk:(evR L n).kind==4 with
  | false =>
   rw [hk,cond_false] at hx;exact ih x hx
  | true =>
   rw [hk,cond_true] at hx
   rcases List.mem_append.1 hx with hx | hx
   ·exact ih x hx
   ·rw [List.mem_singleton.1 hx];exact ⟨AEL hc (show n<L.length by omega) hk _,AE0 hc (show n<L.length by omega) hk _⟩
theorem tF {r:Rul} {L:Rows} (hc:B6 r L=0):BC r L=NZ L L.length 0 (AU r).1 []:=by
 obtain ⟨h1,h2,h3,h4,h5⟩:=DT hc;unfold BC;rw [h1];obtain ⟨j,j1,j2,j3,j4⟩:=V2 L L.length 0 (AU r).1;show MF L L.length 0 (AU r).1 []=_;rw [j3 []]
 rcases j4 with ⟨j5,_⟩ | ⟨j5,j6,j7⟩
 ·rw [j5]
 ·have hh:=Sd L.length 0 _ h4 j j5;rw [hh] at j6;cases j6
theorem ADY {D:Rows} {j:Nat} (h:j<D.length):AO D j∈D:=by
 unfold AO;rw [zzk,zzn h];exact List.getElem_mem h
theorem ACE {r:Rul} {L:Rows} (hc:B6 r L=0) {j:Nat} (hj:j<(BC r L).length):RowF r (AO (BC r L) j)∧(Da (AO (BC r L) j)=0∨(1≤Da (AO (BC r L) j)∧Da (AO (BC r L) j)≤r.side)):=by
 have:=ADY hj;rw [tF hc] at this;have e:=tF hc;rw [e] at hj ⊢;exact zM hc L.length (Nat.le_refl _) _ this
end Go.Px
end
