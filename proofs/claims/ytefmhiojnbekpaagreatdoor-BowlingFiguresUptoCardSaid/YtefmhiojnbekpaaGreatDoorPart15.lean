/- Part 15. -/
import Derived.Test.YtefmhiojnbekpaaGreatDoorPart14
import Derived.KernelRfl
import Derived.Test.YtefmhiojnbekpaaGreatDoorPart07
set_option linter.unusedVariables false
set_option linter.unusedSimpArgs false
variable {r1 r2 r3 r4 r5 r6 r7 r9 r10 r11 r12:Int}
section
namespace Go.Px
set_option maxRecDepth 100000
theorem ADB (xs:List (Int×Int)) (k:Nat) (s:Int×Int) (i:Nat) (hi:i<xs.length):pr (xs.set k s) i=(if k=i then s else pr xs i):=by
 rw [aK,aK,List.getElem?_set]
 by_cases h:k=i
 ·subst h;rw [if_pos rfl,if_pos rfl,if_pos hi]
 ·rw [if_neg h,if_neg h]
theorem ADE (xs:List (Int×Int)) (s:Int×Int) (i:Nat) (hi:i<xs.length+1):pr (xs++[s]) i=(if i<xs.length then pr xs i else s):=by
 rw [aK,aK]
 by_cases h:i<xs.length
 ·rw [if_pos h,List.getElem?_append_left h]
 ·have:i=xs.length:=by omega
  subst this;rw [if_neg h,List.getElem?_append_right (Nat.le_refl _),Nat.sub_self];rfl
theorem aR {L:Rows} {i:Nat} (h:((evR L i).kind==2)=true):opn L (i+1)=opn L i+1:=by
 show opn L i+cond ((evR L i).kind==2) 1 0=_;rw [h];rfl
theorem vP {L:Rows} {i:Nat} (h:((evR L i).kind==2)=false):opn L (i+1)=opn L i:=by
 show opn L i+cond ((evR L i).kind==2) 1 0=_;rw [h];rfl
theorem tQ {L : Rows} (hL : L.length ≤ 1048576) : ∀ i, i ≤ L.length → ∀ k, k < opn L i → ∃ a : Nat, (pr (B2 L i) k).1 = (a : Int) ∧ a < i ∧ opn L a = k ∧ ((evR L a).kind == 2) = true ∧
    ((k+1<opn L i∧∃ b:Nat,(pr (B2 L i) k).2=(b:Int)∧b<i∧opn L b=k+1∧((evR L b).kind==2)=true)∨(k+1=opn L i∧(pr (B2 L i) k).2=(L.length:Int)))
  | 0,_,k,hk=>absurd hk (Nat.not_lt_zero k)
  | i+1,hi,k,hk=>by
    have ih:=tQ hL i (by omega);cases h2:(evR L i).kind==2 with
    | false =>
      rw [vP h2] at hk ⊢;rw [lI h2];obtain ⟨a,h3,h4,h5,h6,h7⟩:=ih k hk;refine ⟨a,h3,by omega,h5,h6,?_⟩
      rcases h7 with ⟨q,b,q1,q2,q3,q4⟩ | q
      · exact Or.inl ⟨q,b,q1,by omega,q3,q4⟩
      · exact Or.inr q
    | true =>
      rw [aR h2] at hk ⊢;have sl:=Y9 L i;have hle:=tn L i;have ha:=fun (j:Nat) (hj:j<opn L i+1)=>ADE (HU (B2 L i) (i:Int)) ((i:Int),(L.length:Int)) j (by rw [YH,sl];exact hj)
      have e:B2 L (i+1)=HU (B2 L i) (i:Int)++[((i:Int),(L.length:Int))]:=by
        show cond ((evR L i).kind==2) _ _=_;rw [h2];rfl
      rw [e,ha k hk,YH,sl]
      by_cases hkn:k<opn L i
      · rw [if_pos hkn];obtain ⟨a,h3,h4,h5,h6,h7⟩:=ih k hkn;have hp:0<opn L i:=by omega
        have ix:=(oQ hp (by omega)).1;have es:HU (B2 L i) (i:Int)=(B2 L i).set (opn L i - 1) ((pr (B2 L i) (opn L i - 1)).1,(i:Int)):=by
          unfold HU;rw [sl,show iLt 0 (opn L i:Int)=true by simp only [iLt,decide_eq_true_eq];omega,ix];rfl
        rw [es,ADB _ _ _ _ (by rw [sl];exact hkn)]
        by_cases hl:opn L i - 1=k
        · rw [if_pos hl,hl];exact ⟨a,h3,by omega,h5,h6,Or.inl ⟨by omega,i,rfl,by omega,by omega,h2⟩⟩
        · rw [if_neg hl];refine ⟨a,h3,by omega,h5,h6,Or.inl ⟨by omega,?_⟩⟩
          rcases h7 with ⟨q,b,q1,q2,q3,q4⟩ | q
          · exact ⟨b,q1,by omega,q3,q4⟩
          · omega
      · have hke:k=opn L i:=by omega
        rw [if_neg hkn];exact ⟨i,rfl,by omega,hke.symm,h2,Or.inr ⟨by omega,rfl⟩⟩
theorem ABf {L:Rows} {a b:Nat} (h:opn L a=opn L b) (ha:((evR L a).kind==2)=true) (hb:((evR L b).kind==2)=true):a=b:=by
 rcases Nat.lt_trichotomy a b with h1 | h1 | h1
 ·have:=K9 L (show a+1≤b by omega);have:=aR ha;omega
 ·exact h1
 ·have:=K9 L (show b+1≤a by omega);have:=aR hb;omega
def E0 (L:Rows) (k:Nat):Nat:=if k<opn L L.length then (pr (B2 L L.length) k).1.toNat else L.length
structure Seg (L:Rows) (k:Nat):Prop where
 x0:(pr (B2 L L.length) k).1=(E0 L k:Int)
 x1:(pr (B2 L L.length) k).2=(E0 L (k+1):Int)
 lt:E0 L k<E0 L (k+1)
 le:E0 L (k+1)≤L.length
 o0:opn L (E0 L k)=k
 o1:opn L (E0 L (k+1))=k+1
 mid:∀ j,E0 L k≤j→j<E0 L (k+1)→opn L (j+1)=k+1
theorem seg {L:Rows} (hL:L.length≤1048576) {k:Nat} (h:k<opn L L.length):Seg L k:=by
 obtain ⟨a,h1,h2,h3,h4,h5⟩:=tQ hL L.length (Nat.le_refl _) k h;have p0:E0 L k=a:=by unfold E0;rw [if_pos h,h1];rfl
 have key:(pr (B2 L L.length) k).2=(E0 L (k+1):Int)∧a<E0 L (k+1)∧E0 L (k+1)≤L.length∧opn L (E0 L (k+1))=k+1:=by
  rcases h5 with ⟨q,b,q1,q2,q3,q4⟩ | ⟨q,q1⟩
  ·obtain ⟨a',g1,g2,g3,g4,_⟩:=tQ hL L.length (Nat.le_refl _) (k+1) q;have e:a'=b:=ABf (g3.trans q3.symm) g4 q4;subst e;have p1:E0 L (k+1)=a':=by unfold E0;rw [if_pos q,g1];rfl
   rw [p1];refine ⟨q1,?_,by omega,q3⟩
   rcases Nat.lt_or_ge a a' with hl | hl
   ·exact hl
   ·have:=K9 L hl;omega
  ·have p1:E0 L (k+1)=L.length:=by unfold E0;rw [if_neg (by omega)]
   rw [p1];exact ⟨q1,h2,Nat.le_refl _,q.symm⟩
 obtain ⟨k1,k2,k3,k4⟩:=key;refine ⟨by rw [h1,p0],k1,by rw [p0];exact k2,k3,by rw [p0];exact h3,k4,fun j j1 j2=>?_⟩;rw [p0] at j1;have m1:=K9 L (show a+1≤j+1 by omega);have m2:=K9 L (show j+1≤E0 L (k+1) by omega);rw [aR h4] at m1;omega
theorem AB1 {L:Rows} {f:Ev→Int} {c:Int} (hf:∀ e,0≤f e∧f e≤c) (j:Nat):∀ i:Nat,0≤smi L f j i∧smi L f j i≤c * (i:Int)
 | 0=>by
  have:smi L f j 0=0:=rfl;rw [this];omega
 | i+1=>by
  have ih:=AB1 (L:=L) hf j i;have h1:=hf (evR L i);rw [tY,show c * ((i+1:Nat):Int)=c * (i:Int)+c by rw [show ((i+1:Nat):Int)=(i:Int)+1 by omega,Int.mul_add,Int.mul_one]];have h2:=hf (evR L i);generalize c * (i:Int)=z at ih ⊢;cases Nat.beq (opn L (i+1)) (j+1)<;>simp only [cond_true,cond_false]<;>omega
structure Sml (x:Sco):Prop where
 runs:0≤x.runs∧x.runs≤1000000
 wk:0≤x.wickets∧x.wickets≤1000000
 balls:0≤x.balls∧x.balls≤1000000
 wides:0≤x.wides∧x.wides≤1000000
 no:0≤x.noballs∧x.noballs≤1000000
 bb:0≤x.byes∧x.byes≤1000000
 lb:0≤x.legbyes∧x.legbyes≤1000000
 pens:0≤x.pens∧x.pens≤1000000
end Go.Px
end
section
namespace Go.Px
set_option maxRecDepth 100000
structure InLog (L:Rows):Prop where
 len:L.length≤4000
 pen:∀ j,j<L.length→((evR L j).kind==13)=true→1≤opn L (j+1)
end Go.Px
end
section
namespace Go.Px
set_option maxRecDepth 100000
theorem KX {r:Rul} {L:Rows} (h:Cl r L=0):((Aa r).2==0)=true∧A2 r=0∧L.length≤4000∧acc L L.length 0 (Aa r).1∧BG r L=(stM L L.length 0 (Aa r).1,-1,0):=by
 unfold Cl at h;cases hc:A2 r==0 with
 | false=>rw [hc] at h;rw [show A2 r=0 from h] at hc;cases hc
 | true =>
  cases hl:iLt 4000 (L.length:Int) with
  | true=>rw [hc,hl] at h;cases h
  | false =>
   cases hr:(BG r L).2.2==0 with
   | false=>rw [hc,hl,hr] at h;cases h
   | true =>
    have hn:=(AA3 r).trans hc;have hrep:BG r L=Cu L L.length 0 (Aa r).1:=by unfold BG;rw [hn];rfl
    obtain ⟨k,h1,h2,h3,h4⟩:=VN L L.length 0 (Aa r).1;have l4:L.length≤4000:=by simp only [iLt,decide_eq_false_iff_not] at hl;omega
    rcases h4 with ⟨h5,h6⟩ | ⟨h5,h6,h7⟩
    ·subst h5;exact ⟨hn,beq_iff_eq.1 hc,l4,h2,hrep.trans h6⟩
    ·rw [hrep,h7] at hr;rw [h6] at hr;cases hr
theorem ADo {r:Rul} {L:Rows} (h:Cl r L=0):InLog L∧RulOk r:=by
 obtain ⟨h1,h2,h3,h4,h5⟩:=KX h;obtain ⟨_,_,h6⟩:=Qe h1 h4 L.length (Nat.le_refl _);refine ⟨⟨h3,fun j hj k13=>?_⟩,DY h2⟩;have e:=beq_iff_eq.1 k13;have:=(h6 j hj).2.play (by rw [e];rfl) (by rw [e];rfl) (by rw [e];rfl) (by rw [e];rfl);exact Nat.le_trans this (Uw L j)
theorem ADs {r:Rul} (h:RulOk r) (e:Ev):0≤(Gq r e).bowler∧(Gq r e).bowler≤36:=by
 have c:=ACt h e;have h0:=c.ba;have h1:=c.wi;have h2:=c.no;have h3:=c.bo;omega
end Go.Px
end
section
namespace Go.Px
set_option maxRecDepth 100000
theorem AAb {N:Nat} {L:Rows}  : SN N [.rows L]=some [.rows (cut L 60)]:=by
 show SA (std (MA N) N) (xOf _)=_;simp only [SA,Alg.q,std,xOf,PXb,PXc,PXn,PXm,Nat.reduceAdd,Int.reduceBEq,ADg (show (0:Int)≤60 by omega)];rfl
def Pu (k s p o:Int) (y:Bool) (t f n b h v:Int):List PV:=[.int k,.int s,.int p,.int o,.bool y,.int 0,.int 0,.int t,.int f,.int n,.int 0,.int b,.bool false,.int h,.int v,.int 0,.int 0,.bool false,.int 0]
def gY:Rows:=[Pu 1 1 0 0 true 0 0 0 0 0 0,Pu 2 0 1 2 false 0 0 0 0 0 0,Pu 8 0 2 0 false 0 0 0 0 0 0,Pu 3 0 1 0 false 0 0 0 0 0 0,Pu 4 0 0 0 false 1 1 1 0 0 0,Pu 4 0 0 0 false 1 0 0 0 1 1,Pu 2 0 2 1 false 0 0 0 0 0 0,Pu 8 0 1 0 false 0 0 0 0 0 0,Pu 3 0 2 0 false 0 0 0 0 0 0,Pu 4 0 0 0 false 2 0 0 0 0 0,Pu 4 0 0 0 false 1 1 0 4 0 0]
def gr:Rul:=⟨⟨#[84,69,83,84]⟩,2,1,1,4,0,1,1,false,0,0,0,11,[]⟩
theorem ADr:R5 4194304 []=some [.rows gY]:=by kernel_rfl
theorem ACu:Mg 4194304 []=some gr.ls:=by kernel_rfl
theorem HX {x:Option (List PV)} {v:List PV} {f:List PV→Option (List PV)} {r:Option (List PV)} (h:x=some v) (hk:f v=r):x.bind f=r:=by rw [h];exact hk
end Go.Px
end
section
namespace Go.Px
set_option maxRecDepth 100000
structure Up (x y:Sco):Prop where
 side:y.side=x.side
 runs:x.runs≤y.runs
 wk:x.wickets≤y.wickets
 balls:x.balls≤y.balls
theorem Up.refl (x:Sco):Up x x:=⟨rfl,Int.le_refl _,Int.le_refl _,Int.le_refl _⟩
end Go.Px
end
section
namespace Go.Px
set_option maxRecDepth 100000
def ADY (L:Rows) (k:Nat):Rows:=List.drop (E0 L k) (List.take (E0 L (k+1)) L)
end Go.Px
end
section
namespace Go.Px
set_option maxRecDepth 100000
theorem mu {L:Rows}:∀ k i m out,LG L (k+1) i m out=cond ((evR L (i+k)).kind==4) (LG L k i m out++[H3 ((i+k:Nat):Int) (stM L k i m) (As ((i+k:Nat):Int) (stM L k i m) (evR L (i+k))).1 (evR L (i+k)).ball]) (LG L k i m out)
 | 0,i,m,out=>rfl
 | k+1,i,m,out=>by
  have ih:=mu (L:=L) k (i+1) (As i m (evR L i)).1 (cond ((evR L i).kind==4) (out++[H3 i m (As i m (evR L i)).1 (evR L i).ball]) out);rw [show i+1+k=i+(k+1) by omega] at ih;exact ih
def Ey (x:List PV):List PV:=[.int (pvI (AA x 0)),.int (pvI (AA x 1)),.int (pvI (AA x 2)),.int (pvI (AA x 3)),.int (pvI (AA x 4)),.int (pvI (AA x 5)),.int (pvI (AA x 6)),.bool (pvB (AA x 7)),.int (pvI (AA x 8)),.int (pvI (AA x 9)),.int (pvI (AA x 10)),.int (pvI (AA x 11)),.int (pvI (AA x 12)),.bool (pvB (AA x 13)),.int (pvI (AA x 14)),.int (pvI (AA x 15)),.int (pvI (AA x 16)),.int (pvI (AA x 17)),.bool (pvB (AA x 18)),.int (pvI (AA x 19)),.int (pvI (AA x 20)),.int (pvI (AA x 21)),.int (pvI (AA x 22)),.int (pvI (AA x 23)),.int (pvI (AA x 24)),.int (pvI (AA x 25)),.bool (pvB (AA x 26)),.bool (pvB (AA x 27)),.bool (pvB (AA x 28)),.bool (pvB (AA x 29)),.int (pvI (AA x 30)),.int (pvI (AA x 31))]
def fil (k:Int):Rows→Rows
 | []=>[]
 | x::D=>cond (pvI (AA x 1)==k) (Ey x::fil k D) (fil k D)
theorem pA (k:Int):∀ A B,fil k (A++B)=fil k A++fil k B
 | [],B=>rfl
 | x::A,B=>by
  show cond _ (Ey x::fil k (A++B)) (fil k (A++B))=_;rw [pA k A B];show _=cond (pvI (AA x 1)==k) (Ey x::fil k A) (fil k A)++fil k B;cases pvI (AA x 1)==k<;>rfl
theorem o9 (k:Int):∀ D,(fil k D).length≤D.length
 | []=>Nat.le_refl _
 | x::D=>by
  have:=o9 k D;show (cond (pvI (AA x 1)==k) (Ey x::fil k D) (fil k D)).length≤D.length+1;cases pvI (AA x 1)==k
  ·exact Nat.le_succ_of_le this
  ·exact Nat.succ_le_succ this
theorem ABq {D:Rows} {i:Nat} (h:i<D.length):D.take (i+1)=D.take i++[AB D i]:=by
 rw [List.take_add_one,List.getElem?_eq_getElem h];unfold AB;rw [List.getD_eq_getElem?_getD,List.getElem?_eq_getElem h];rfl
theorem kv {D:Rows} {i:Nat} {k:Int} (h:i<D.length):fil k (D.take (i+1))=cond (pvI (AK D i 1)==k) (fil k (D.take i)++[Ey (AB D i)]) (fil k (D.take i)):=by
 rw [ABq h,pA];show fil k (D.take i)++cond (pvI (AA (AB D i) 1)==k) [Ey (AB D i)] []=_;show _=cond (pvI (AA (AB D i) 1)==k) _ _;cases pvI (AA (AB D i) 1)==k
 ·exact List.append_nil _
 ·rfl
theorem ABQ {N : Nat} {D : Rows} {k : Int} (hN : 2097152 < N) (hD : D.length ≤ 1000000) {F : (List Ae → Option (List PV)) → List PV → Option (List PV)}
    (h0:∀ self,F self [.rows (fil k D),.int (D.length:Int)]=some [.rows (fil k D)])
    (h1:∀ i self out,i<D.length→out.length≤i→F self [.rows out,.int (i:Int)]=self [.rows (cond (pvI (AK D i 1)==k) (out++[Ey (AB D i)]) out),.int ((i+1:Nat):Int)]):Ds F N [.rows [],.int 0]=some [.rows (fil k D)]:=by
  have:=Bz (F:=F) (len:=D.length) (fun i=>[.rows (fil k (D.take i)),.int (i:Int)]) [.rows (fil k D)] (fun self=>by
    show F self [.rows (fil k (D.take D.length)),_]=_;rw [List.take_length];exact h0 self) (fun i self hi=>by
    have hl:=o9 k (D.take i);rw [List.length_take] at hl;rw [kv hi];exact h1 i self _ hi (by omega)) N (by omega)
  exact this
set_option maxHeartbeats 2000000 in
theorem rh {N:Nat} {D:Rows} {k:Int} (hN:2097152<N) (hD:D.length≤1000000):Mw N [.rows D,.int k]=some [.rows (fil k D)]:=by
 show NF (std (W1 N) N) (xOf _)=_;simp only [NF,Alg.q,std,xOf,PXb];refine AM (ABQ hN hD ?_ ?_) rfl
 ·intro self;simp only [PXb,PXc,PXn,AD,Ao]
 ·intro i self out hi ho;have sm:iSm ((out.length+1:Nat):Int) 216=true:=DP (by omega) (by omega);simp only [PXb,PXc,PXn,AD,Bq (show i≤1099511627776 by omega),Ad hi,AN hi,Nat.reduceAdd,List.length_append,List.length_cons,List.length_nil,sm];cases pvI (AK D i 1)==k<;>rfl
theorem vS {d:Del} (h:(C5 d==0)=true):0≤d.sector∧d.sector≤8:=by
 unfold C5 at h;cases h1:(iLt d.type 1||iLt 3 d.type||iLt 3 d.source||iLt 10 d.how || !btw d.sector 0 8) with
 | true=>rw [h1] at h;cases h
 | false =>
  simp only [btw,iLe,Bool.or_eq_false_iff,Bool.not_eq_false',Bool.and_eq_true,decide_eq_true_eq] at h1;exact h1.2
structure BallF (r:Rul) (L:Rows) (a:Nat):Prop where
 one:1≤opn L a
 lnx:lnx (stM L a 0 (Aa r).1).inns=opn L a - 1
 inn:IntKind.i64.wrap (((stM L a 0 (Aa r).1).inns.length:Int) - 1)=((opn L a - 1:Nat):Int)
 ok:InnOk r (Af (stM L a 0 (Aa r).1))
 rules:(stM L a 0 (Aa r).1).rules=r
 ref:(GC r (Af (stM L a 0 (Aa r).1)) (evR L a).ball==0)=true
 over:(Af (stM L a 0 (Aa r).1)).complete≤1000
theorem AAP {r:Rul} {L:Rows} (hc:Cl r L=0) {a:Nat} (ha:a<L.length) (hk:((evR L a).kind==4)=true):BallF r L a:=by
 obtain ⟨h1,h2,h3,h4,h5⟩:=KX hc;obtain ⟨li,so,_⟩:=Qe h1 h4 a (by omega);obtain ⟨_,_,hi⟩:=Qe h1 h4 L.length (Nat.le_refl _);have e:=beq_iff_eq.1 hk;have one:=(hi a ha).2.play (by rw [e];rfl) (by rw [e];rfl) (by rw [e];rfl) (by rw [e];rfl);have a0:=VB L.length 0 _ h4 a ha;rw [Nat.zero_add] at a0;have q:=(Yn a0).1;rw [q] at a0;obtain ⟨g1,g2,g3,g4⟩:=aI a0 hk;have sl:=so.len;have ll:=li.len;have lx:Px.lnx (stM L a 0 (Aa r).1).inns=opn L a - 1:=by
  unfold Px.lnx;rw [ll,B3 (by omega) (by omega)];omega
 have rl:=so.rules;obtain ⟨hv,he,hn,hw,hp,hs⟩:=YZ g3;rw [rl] at hv hp;have ok:=Nw.1 hv;have hpb:BN r (Af (stM L a 0 (Aa r).1)) (evR L a)=Iq r (Af (stM L a 0 (Aa r).1)) (evR L a).ball:=by unfold BN;rw [e];rfl
 rw [hpb] at hp;have cl:=z6 h1 h4 a (by omega);have at1:=cl.at' (opn L a - 1) (by omega);have kx:sco (Fx (stM L a 0 (Aa r).1)).xs (opn L a - 1)=Bj r.balls (Af (stM L a 0 (Aa r).1)):=by
  unfold Fx Af;rw [rl,lx];exact UP _ _ (by omega)
 rw [kx] at at1;have bl:Cc r.balls (Af (stM L a 0 (Aa r).1)).complete (Af (stM L a 0 (Aa r).1)).inover=smi L (zN r) (opn L a - 1) a:=congrArg Sco.balls at1;have be:=(tj ok).1;have cb:=AB1 (L:=L) (f:=zN r) (c:=1) (fun e=>by unfold zN;cases (Gq r e).counts<;>simp) (opn L a - 1) a;have q4:=(DY ok.code).balls;have io:=ok.io;have co:=ok.complete;unfold Bt at co;have m1:=Int.mul_le_mul_of_nonneg_left q4.1 co.1;refine ⟨one,lx,by rw [ll,B3 (by omega) (by omega)];omega,ok,rl,(pF hp).1,?_⟩;rw [bl] at be;omega
def Sx (r:Rul) (L:Rows) (k:Nat):Nat→Rows
 | 0=>[]
 | n+1=>cond ((evR L n).kind==4&&Nat.beq (opn L (n+1)) (k+1)) (Sx r L k n++[H3 (n:Int) (stM L n 0 (Aa r).1) (stM L (n+1) 0 (Aa r).1) (evR L n).ball]) (Sx r L k n)
theorem xe {r:Rul} {L:Rows} (hc:Cl r L=0) (k:Nat):∀ n,n≤L.length→fil (k:Int) (LG L n 0 (Aa r).1 [])=Sx r L k n
 | 0,_=>rfl
 | n+1,hn=>by
  have ih:=xe hc k n (by omega);rw [mu,Nat.zero_add];have si:=bG (L:=L) n 0 (Aa r).1;rw [Nat.zero_add] at si;show _=cond ((evR L n).kind==4&&Nat.beq (opn L (n+1)) (k+1)) _ (Sx r L k n);cases hk:(evR L n).kind==4 with
  | false=>exact ih
  | true =>
   have bf:=AAP hc (show n<L.length by omega) hk;have on:opn L (n+1)=opn L n:=vP (by rw [beq_iff_eq.1 hk];rfl);rw [cond_true,pA,ih,← si,on,Bool.true_and];show Sx r L k n++cond (IntKind.i64.wrap (((stM L n 0 (Aa r).1).inns.length:Int) - 1)==(k:Int)) [_] []=_;rw [bf.inn];have one:=bf.one
   by_cases e:opn L n=k+1
   ·rw [e,gy,show ((k+1 - 1:Nat):Int)=(k:Int) by omega,beq_self_eq_true];rfl
   ·rw [nO e,beq_false_of_ne (by omega)];exact List.append_nil _
theorem yw {r:Rul} {L:Rows} (hc:Cl r L=0) (k:Nat):fil (k:Int) (Bp r L)=Sx r L k L.length:=by
 obtain ⟨h1,h2,h3,h4,h5⟩:=KX hc;have:Bp r L=LG L L.length 0 (Aa r).1 []:=by
  unfold Bp;rw [h1];obtain ⟨j,j1,j2,j3,j4⟩:=VN L L.length 0 (Aa r).1;show LT L L.length 0 (Aa r).1 []=_;rw [j3 []]
  rcases j4 with ⟨j5,_⟩ | ⟨j5,j6,j7⟩
  ·rw [j5]
  ·have hh:=VB L.length 0 _ h4 j j5;rw [hh] at j6;cases j6
 rw [this];exact xe hc k L.length (Nat.le_refl _)
structure RowF (r:Rul) (x:List PV):Prop where
 over:∃ o:Nat,o≤1000∧pvI (AA x 2)=(o:Int)
 sector:∃ s:Nat,s≤8∧pvI (AA x 19)=(s:Int)
 striker:1≤pvI (AA x 5)∧pvI (AA x 5)≤r.side
 cre:∃ d,pvI (AA x 20)=(AG r d).batter∧pvI (AA x 21)=(AG r d).wides∧pvI (AA x 22)=(AG r d).noballs∧pvI (AA x 23)=(AG r d).byes∧pvI (AA x 24)=(AG r d).legbyes∧pvI (AA x 25)=(AG r d).bowler
theorem ADm {r:Rul} {L:Rows} (hc:Cl r L=0) {a:Nat} (ha:a<L.length) (hk:((evR L a).kind==4)=true) (t:Mat):RowF r (H3 (a:Int) (stM L a 0 (Aa r).1) t (evR L a).ball):=by
 have bf:=AAP hc ha hk;obtain ⟨q1,q2,q3,q4,q5,q6⟩:=gI bf.ref;have ls:=vS q4;have co:=bf.ok.complete;unfold Bt at co;have st:=bf.ok.st;have over:=bf.over;have beg:Bv (Af (stM L a 0 (Aa r).1)).batters=true:=by
  obtain ⟨h1,h2,h3,h4,h5⟩:=KX hc;have a0:=VB L.length 0 _ h4 a ha;rw [Nat.zero_add] at a0;have q:=(Yn a0).1;rw [q] at a0;obtain ⟨g1,g2,g3,g4⟩:=aI a0 hk;exact ke (YZ g3).2.2.2.1 (by rw [beq_iff_eq.1 hk];rfl)
 have z1:=(kG q1 beg).1;rw [beq_eq_false_iff_ne] at z1;refine ⟨⟨(Af (stM L a 0 (Aa r).1)).complete.toNat,by omega,?_⟩,⟨(evR L a).ball.sector.toNat,by omega,?_⟩,?_,(evR L a).ball,?_⟩
 ·show (Af (stM L a 0 (Aa r).1)).complete=_;omega
 ·show (evR L a).ball.sector=_;omega
 ·show 1≤(Af (stM L a 0 (Aa r).1)).striker∧(Af (stM L a 0 (Aa r).1)).striker≤r.side;omega
 ·have rl:=bf.rules;show (AG (stM L a 0 (Aa r).1).rules _).batter=_∧(AG (stM L a 0 (Aa r).1).rules _).wides=_∧(AG (stM L a 0 (Aa r).1).rules _).noballs=_∧(AG (stM L a 0 (Aa r).1).rules _).byes=_∧(AG (stM L a 0 (Aa r).1).rules _).legbyes=_∧(AG (stM L a 0 (Aa r).1).rules _).bowler=_;rw [rl];exact ⟨rfl,rfl,rfl,rfl,rfl,rfl⟩
theorem ACC {r:Rul} {L:Rows} (hc:Cl r L=0) (k:Nat):∀ n,n≤L.length→(Sx r L k n).length≤n∧∀ x,x∈Sx r L k n→RowF r x
 | 0,_=>⟨Nat.le_refl _,fun x hx=>absurd hx (List.not_mem_nil)⟩
 | n+1,hn=>by
  obtain ⟨i1,i2⟩:=ACC hc k n (by omega);show (cond ((evR L n).kind==4&&Nat.beq (opn L (n+1)) (k+1)) _ (Sx r L k n)).length≤n+1∧∀ x,x∈cond ((evR L n).kind==4&&Nat.beq (opn L (n+1)) (k+1)) _ (Sx r L k n)→RowF r x;cases hk:(evR L n).kind==4 with
  | false=>exact ⟨Nat.le_succ_of_le i1,i2⟩
  | true =>
   cases Nat.beq (opn L (n+1)) (k+1) with
   | false=>exact ⟨Nat.le_succ_of_le i1,i2⟩
   | true =>
    refine ⟨?_,fun x hx=>?_⟩
    ·show (Sx r L k n++[_]).length≤n+1;rw [List.length_append];exact Nat.succ_le_succ i1
    ·rcases List.mem_append.1 hx with hx | hx
     ·exact i2 x hx
     ·rw [List.mem_singleton.1 hx];exact ADm hc (by omega) hk _
end Go.Px
end
section
namespace Go.Px
set_option maxRecDepth 100000
def Cg (r:Rul) (L:Rows) (k:Int):Rows×Int:=cond (!(Cl r L==0)) ([],Cl r L) (cond (iLt k 0||iLe (opn L L.length:Int) k) ([],2) (fil k (Bp r L),0))
theorem vq {r:Rul} {L:Rows} {k:Int} (h:((Cg r L k).2==0)=true):Cl r L=0∧0≤k∧k<(opn L L.length:Int)∧(Cg r L k).1=Sx r L k.toNat L.length∧(Cg r L k).2=0∧(Cg r L k).1.length≤4000∧∀ i,i<(Cg r L k).1.length→RowF r (AB (Cg r L k).1 i):=by
 unfold Cg at h ⊢;cases hc:Cl r L==0 with
 | false=>rw [hc] at h;exact absurd (show (Cl r L==0)=true from h) (by rw [hc];decide)
 | true =>
  have c0:=beq_iff_eq.1 hc;cases hb:iLt k 0||iLe (opn L L.length:Int) k with
  | true=>rw [hc,hb] at h;cases h
  | false =>
   simp only [Bool.or_eq_false_iff,iLt,iLe,decide_eq_false_iff_not] at hb;obtain ⟨K,rfl⟩:∃ K:Nat,k=(K:Int):=⟨k.toNat,by omega⟩;have e:=yw c0 K;obtain ⟨b1,b2⟩:=ACC c0 K L.length (Nat.le_refl _);have l4:=(KX c0).2.2.1;refine ⟨c0,by omega,by omega,?_,rfl,?_,fun i hi=>?_⟩
   ·exact e
   ·show (fil (K:Int) (Bp r L)).length≤4000;rw [e];omega
   ·change i<(fil (K:Int) (Bp r L)).length at hi;show RowF r (AB (fil (K:Int) (Bp r L)) i);rw [e] at hi ⊢;refine b2 _ ?_;unfold AB;rw [List.getD_eq_getElem?_getD,List.getElem?_eq_getElem hi];exact List.getElem_mem hi
set_option maxHeartbeats 4000000 in
theorem ABx {N:Nat} {r8:Bool} {r0:ByteArray} {r13:Rows} {L:Rows} {k:Int} (hN:2097152<N) (hs:r0.size≤1048576) (h13:r13.length≤1048576) (hL:L.length≤1000000):Ut N [.str r0,.int r1,.int r2,.int r3,.int r4,.int r5,.int r6,.int r7,.bool r8,.int r9,.int r10,.int r11,.int r12,.rows r13,.rows L,.int k]=some [.rows (cond ((Cg (⟨r0,r1,r2,r3,r4,r5,r6,r7,r8,r9,r10,r11,r12,r13⟩:Rul) L k).2==0) (ADY L k.toNat) []),.rows (Cg (⟨r0,r1,r2,r3,r4,r5,r6,r7,r8,r9,r10,r11,r12,r13⟩:Rul) L k).1,.int (Cg (⟨r0,r1,r2,r3,r4,r5,r6,r7,r8,r9,r10,r11,r12,r13⟩:Rul) L k).2]:=by
 show Ub (std (Ew N) N) (xOf _)=_;generalize hres:(some [.rows (cond ((Cg (⟨r0,r1,r2,r3,r4,r5,r6,r7,r8,r9,r10,r11,r12,r13⟩:Rul) L k).2==0) (ADY L k.toNat) []),.rows (Cg (⟨r0,r1,r2,r3,r4,r5,r6,r7,r8,r9,r10,r11,r12,r13⟩:Rul) L k).1,.int (Cg (⟨r0,r1,r2,r3,r4,r5,r6,r7,r8,r9,r10,r11,r12,r13⟩:Rul) L k).2]:Option (List PV))=RR;have hl:L.length≤1048576:=by omega
 simp only [Ub,gD,iP,dP,Om,Alg.q,std,xOf,PXb,wa hN hs h13 hl,td hN hl,yq hN hs h13 hl,ZD,PXc];subst hres;simp only [Cg];cases hc:Cl (⟨r0,r1,r2,r3,r4,r5,r6,r7,r8,r9,r10,r11,r12,r13⟩:Rul) L==0 with
 | false=>simp only [PXb,Bool.not_false,hc]
 | true =>
  have pl:=mg (⟨r0,r1,r2,r3,r4,r5,r6,r7,r8,r9,r10,r11,r12,r13⟩:Rul) L;simp only [PXb,Bool.not_true,PXp,Y9];cases hb:iLt k 0||iLe (opn L L.length:Int) k with
  | true=>rfl
  | false =>
   simp only [Bool.or_eq_false_iff,iLt,iLe,decide_eq_false_iff_not] at hb;obtain ⟨K,rfl⟩:∃ K:Nat,k=(K:Int):=⟨k.toNat,by omega⟩;have hk:K<opn L L.length:=by omega
   have sg:=seg hl hk;have sgl:=sg.lt;have sge:=sg.le;have rg:iRg (E0 L K:Int) (E0 L (K+1):Int) (L.length:Int)=true:=by simp only [iRg,decide_eq_true_eq];omega
   simp only [PXb,AN hk,sg.x0,sg.x1,rg,Int.toNat_natCast,Om,rh hN (show (Bp (⟨r0,r1,r2,r3,r4,r5,r6,r7,r8,r9,r10,r11,r12,r13⟩:Rul) L).length≤1000000 by omega),beq_self_eq_true];rfl
end Go.Px
end
section
namespace Go.Px
set_option maxRecDepth 100000
theorem fq {F : (List Ae → Option (List PV)) → List PV → Option (List PV)} {len p : Nat} (enc : Nat → List Ae) (stop fin : List PV) (hp : p ≤ len)
    (h0:p=len→∀ self,F self ((enc len).map Leaf.pv)=some fin) (h1:∀ i self,i<p→F self ((enc i).map Leaf.pv)=self (enc (i+1)))
    (h2:p<len→∀ self,F self ((enc p).map Leaf.pv)=some stop) (n:Nat) (hn:len<n) :
    Ds F n ((enc 0).map Leaf.pv)=some (cond (Nat.blt p len) stop fin):=by
  have main:∀ (k i n:Nat),i+k=p→k<n→Ds F n ((enc i).map Leaf.pv)=some (cond (Nat.blt p len) stop fin):=by
    intro k
    induction k with
    | zero =>
      intro i n hk hn;obtain ⟨n,rfl⟩:∃ m,n=m+1:=⟨n - 1,by omega⟩;obtain rfl:i=p:=by omega
      show F _ _=_
      rcases Nat.lt_or_ge i len with h | h
      · rw [h2 h,show Nat.blt i len=true from Nat.ble_eq_true_of_le h];rfl
      · obtain rfl:i=len:=by omega
        rw [h0 rfl,show Nat.blt i i=false from by
          cases hq:Nat.blt i i with
          | false=>rfl
          | true=>exact absurd (Nat.le_of_ble_eq_true hq) (by omega)]
        rfl
    | succ k ih =>
      intro i n hk hn;obtain ⟨n,rfl⟩:∃ m,n=m+1:=⟨n - 1,by omega⟩;show F _ _=_;rw [h1 i _ (by omega)];exact ih (i+1) n (by omega) (by omega)
  exact main p 0 n (by omega) (by omega)
def Ji (f:Nat→Bool):Nat→Nat→Nat
 | 0,i=>i
 | k+1,i=>cond (f i) i (Ji f k (i+1))
theorem N8 (f:Nat→Bool):∀ k i,Ji f k i≤i+k
 | 0,i=>Nat.le_refl _
 | k+1,i=>by
  show cond (f i) i (Ji f k (i+1))≤_;have:=N8 f k (i+1);cases f i
  ·show Ji f k (i+1)≤_;omega
  ·show i≤_;omega
theorem UQ (f:Nat→Bool):∀ k i j,i≤j→j<Ji f k i→f j=false
 | 0,i,j,h1,h2=>by change j<i at h2;omega
 | k+1,i,j,h1,h2=>by
  change j<cond (f i) i (Ji f k (i+1)) at h2;cases hf:f i with
  | true=>rw [hf] at h2;change j<i at h2;omega
  | false =>
   rw [hf] at h2
   rcases Nat.lt_or_ge i j with h | h
   ·exact UQ f k (i+1) j h h2
   ·obtain rfl:j=i:=by omega
    exact hf
theorem Qk (f:Nat→Bool):∀ k i,Ji f k i<i+k→f (Ji f k i)=true
 | 0,i,h=>by change i<i at h;omega
 | k+1,i,h=>by
  change cond (f i) i (Ji f k (i+1))<i+(k+1) at h;show f (cond (f i) i (Ji f k (i+1)))=true;cases hf:f i with
  | true=>exact hf
  | false =>
   rw [hf] at h;change Ji f k (i+1)<i+(k+1) at h;exact Qk f k (i+1) (by omega)
structure BL where
 p:Int
 b:Int
 m:Int
 r:Int
 w:Int
 wd:Int
 nb:Int
def BL.ls (s:BL):List PV:=[.int s.p,.int s.b,.int s.m,.int s.r,.int s.w,.int s.wd,.int s.nb]
def BL.lf (s:BL):List Ae:=[.int s.p,.int s.b,.int s.m,.int s.r,.int s.w,.int s.wd,.int s.nb]
def Ak (xs:List BL):Rows:=xs.map BL.ls
def zBL (b m:Int):BL:=⟨b,0,m,0,0,0,0⟩
def bln (xs:List BL) (i:Nat):BL:=xs.getD i (zBL 0 0)
theorem uD (xs:List BL) (i:Nat):bln xs i=(match xs[i]? with | some s=>s | none=>zBL 0 0):=by
 unfold bln;rw [List.getD_eq_getElem?_getD];cases xs[i]?<;>rfl
theorem gR {xs:List BL} {i:Nat} (h:i<xs.length):bln xs i=xs[i]:=by rw [uD,List.getElem?_eq_getElem h]
theorem xh (xs:List BL) (i:Nat):AB (Ak xs) i=(match xs[i]? with | some s=>s.ls | none=>[]):=by
 unfold AB Ak;rw [List.getD_eq_getElem?_getD,List.getElem?_map];cases xs[i]?<;>rfl
theorem E8 (xs:List BL):(Ak xs).length=xs.length:=List.length_map _
theorem PXv : (∀ xs : List BL, (Ak xs).length = xs.length) ∧ (∀ (xs : List BL) (i : Nat), pvI (AK (Ak xs) i 0) = (bln xs i).p) ∧ (∀ (xs : List BL) (i : Nat), pvI (AK (Ak xs) i 1) = (bln xs i).b) ∧ (∀ (xs : List BL) (i : Nat), pvI (AK (Ak xs) i 2) = (bln xs i).m) ∧ (∀ (xs : List BL) (i : Nat), pvI (AK (Ak xs) i 3) = (bln xs i).r) ∧
    (∀ (xs:List BL) (i:Nat),pvI (AK (Ak xs) i 4)=(bln xs i).w)∧(∀ (xs:List BL) (i:Nat),pvI (AK (Ak xs) i 5)=(bln xs i).wd)∧(∀ (xs:List BL) (i:Nat),pvI (AK (Ak xs) i 6)=(bln xs i).nb):=by
  refine ⟨E8,?_,?_,?_,?_,?_,?_,?_⟩
  all_goals (intro xs i;rw [uD];unfold AK;rw [xh];cases xs[i]?<;>rfl)
theorem Lb {xs:List BL} {i j:Nat} {v:Int} (f:BL→BL) (h:∀ s:BL,BC s.ls j [.int v]=(f s).ls):(Ak xs).set i (BC (AB (Ak xs) i) j [.int v])=Ak (xs.set i (f (bln xs i))):=by
 by_cases hi:i<xs.length
 ·have e:AB (Ak xs) i=(bln xs i).ls:=by rw [xh,uD,List.getElem?_eq_getElem hi]
  rw [e,h];exact List.map_set.symm
 ·rw [List.set_eq_of_length_le (by rw [E8];omega),List.set_eq_of_length_le (by omega)]
theorem PXx : (∀ (xs : List BL) (i : Nat) (v : Int), (Ak xs).set i (BC (AB (Ak xs) i) 1 [.int v]) = Ak (xs.set i { bln xs i with b := v })) ∧ (∀ (xs : List BL) (i : Nat) (v : Int), (Ak xs).set i (BC (AB (Ak xs) i) 2 [.int v]) = Ak (xs.set i { bln xs i with m := v })) ∧
    (∀ (xs:List BL) (i:Nat) (v:Int),(Ak xs).set i (BC (AB (Ak xs) i) 3 [.int v])=Ak (xs.set i { bln xs i with r:=v }))∧(∀ (xs:List BL) (i:Nat) (v:Int),(Ak xs).set i (BC (AB (Ak xs) i) 4 [.int v])=Ak (xs.set i { bln xs i with w:=v })) ∧
    (∀ (xs:List BL) (i:Nat) (v:Int),(Ak xs).set i (BC (AB (Ak xs) i) 5 [.int v])=Ak (xs.set i { bln xs i with wd:=v }))∧(∀ (xs:List BL) (i:Nat) (v:Int),(Ak xs).set i (BC (AB (Ak xs) i) 6 [.int v])=Ak (xs.set i { bln xs i with nb:=v })) ∧
    (∀ (xs:List BL) (a b c d e f g:Int),Ak xs++[([.int a,.int b,.int c,.int d,.int e,.int f,.int g]:List PV)]=Ak (xs++[⟨a,b,c,d,e,f,g⟩])) :=
  ⟨fun xs i v=>Lb (j:=1) (v:=v) (fun s=>{ s with b:=v }) (fun s=>rfl),fun xs i v=>Lb (j:=2) (v:=v) (fun s=>{ s with m:=v }) (fun s=>rfl),fun xs i v=>Lb (j:=3) (v:=v) (fun s=>{ s with r:=v }) (fun s=>rfl),fun xs i v=>Lb (j:=4) (v:=v) (fun s=>{ s with w:=v }) (fun s=>rfl),fun xs i v=>Lb (j:=5) (v:=v) (fun s=>{ s with wd:=v }) (fun s=>rfl),fun xs i v=>Lb (j:=6) (v:=v) (fun s=>{ s with nb:=v }) (fun s=>rfl),
    fun xs a b c d e f g=>(List.map_append (f:=BL.ls) (l₁:=xs) (l₂:=[⟨a,b,c,d,e,f,g⟩])).symm⟩
abbrev wr6 (n:Int):Int:=IntKind.i64.wrap n
def blX (x:List PV) (md:Bool) (s:BL):BL:=⟨s.p,cond (pvB (AA x 26)) (wr6 (s.b+1)) s.b,cond md (wr6 (s.m+1)) s.m,wr6 (s.r+pvI (AA x 25)),cond (pvB (AA x 28)) (wr6 (s.w+1)) s.w,cond (pvI (AA x 8)==2) (wr6 (s.wd+1)) s.wd,cond (pvI (AA x 8)==2) s.nb (cond (pvI (AA x 8)==3) (wr6 (s.nb+1)) s.nb)⟩
def Es (b:Int) (xs:List BL):Nat:=Ji (fun j=>(bln xs j).p==b) xs.length 0
def Z8 (b:Int) (xs:List BL):List BL:=cond (Nat.blt (Es b xs) xs.length) xs (xs++[zBL b 0])
def nJ (x:List PV) (md:Bool) (xs:List BL):List BL:=(Z8 (pvI (AA x 4)) xs).set (Es (pvI (AA x 4)) xs) (blX x md (bln (Z8 (pvI (AA x 4)) xs) (Es (pvI (AA x 4)) xs)))
def RD (md:Nat→Bool) (X:Rows):Nat→List BL
 | 0=>[]
 | i+1=>nJ (AB X i) (md i) (RD md X i)
def BF (md:Nat→Bool) (X:Rows) (b m0:Int):Nat→BL
 | 0=>zBL b m0
 | i+1=>cond (pvI (AA (AB X i) 4)==b) (blX (AB X i) (md i) (BF md X b m0 i)) (BF md X b m0 i)
def boN (X:Rows):Nat→List Int
 | 0=>[]
 | i+1=>cond ((boN X i).any (·==pvI (AA (AB X i) 4))) (boN X i) (boN X i++[pvI (AA (AB X i) 4)])
theorem gq (X:Rows):∀ i,(boN X i).length≤i
 | 0=>Nat.le_refl _
 | i+1=>by
  have:=gq X i;show (cond _ (boN X i) (boN X i++[_])).length≤i+1;cases (boN X i).any (·==pvI (AA (AB X i) 4))
  ·show (boN X i++[_]).length≤_;rw [List.length_append];exact Nat.succ_le_succ this
  ·exact Nat.le_succ_of_le this
theorem AAp {l:List Int} {b:Int} (h:l.any (·==b)=false):b∉l:=fun hm=>by
 have:l.any (·==b)=true:=List.any_eq_true.2 ⟨b,hm,beq_self_eq_true b⟩;rw [h] at this;cases this
theorem qA (X:Rows):∀ i,(boN X i).Nodup
 | 0=>List.nodup_nil
 | i+1=>by
  have ih:=qA X i;show (cond _ (boN X i) (boN X i++[_])).Nodup;cases ha:(boN X i).any (·==pvI (AA (AB X i) 4)) with
  | true=>exact ih
  | false =>
   refine List.nodup_append.2 ⟨ih,List.pairwise_singleton _ _,fun x hx y hy=>?_⟩;rw [List.mem_singleton.1 hy];exact fun e=>AAp ha (e▸hx)
theorem zM (md:Nat→Bool) (X:Rows) (b m0:Int):∀ i,(BF md X b m0 i).p=b
 | 0=>rfl
 | i+1=>by
  have ih:=zM md X b m0 i;show (cond _ (blX _ _ (BF md X b m0 i)) (BF md X b m0 i)).p=b;cases pvI (AA (AB X i) 4)==b<;>exact ih
theorem uo (md:Nat→Bool) (X:Rows) (b m0:Int):∀ i,b∉boN X i→BF md X b m0 i=zBL b m0
 | 0,_=>rfl
 | i+1,h=>by
  change b∉cond _ (boN X i) (boN X i++[_]) at h;have h1:b∉boN X i∧(pvI (AA (AB X i) 4)==b)=false:=by
   cases ha:(boN X i).any (·==pvI (AA (AB X i) 4)) with
   | true =>
    rw [ha] at h;refine ⟨h,beq_eq_false_iff_ne.2 (fun e=>h ?_)⟩;obtain ⟨y,hy,hye⟩:=List.any_eq_true.1 ha;rw [← e,← beq_iff_eq.1 hye];exact hy
   | false =>
    rw [ha] at h;have h:b∉boN X i++[_]:=h;exact ⟨fun hm=>h (List.mem_append_left _ hm),beq_eq_false_iff_ne.2 (fun e=>h (List.mem_append_right _ (by rw [e];exact List.mem_singleton.2 rfl)))⟩
  show cond _ (blX _ _ (BF md X b m0 i)) (BF md X b m0 i)=_;rw [h1.2];exact uo md X b m0 i h1.1
theorem nU {a b:Nat} (h:a<b):Nat.blt a b=true:=Nat.ble_eq_true_of_le h
theorem mL {a b:Nat} (h:¬ a<b):Nat.blt a b=false:=by
 cases hq:Nat.blt a b with
 | false=>rfl
 | true=>exact absurd (Nat.le_of_ble_eq_true hq) h
theorem gu (md:Nat→Bool) (X:Rows):∀ i,RD md X i=(boN X i).map fun b=>BF md X b 0 i
 | 0=>rfl
 | i+1=>by
  have ih:=gu md X i;have nd:=qA X i;show nJ (AB X i) (md i) (RD md X i)=(cond ((boN X i).any (·==pvI (AA (AB X i) 4))) (boN X i) (boN X i++[pvI (AA (AB X i) 4)])).map _;rw [ih];generalize hb:pvI (AA (AB X i) 4)=b;generalize hB:boN X i=B at *
  have ls1:∀ c,BF md X c 0 (i+1)=cond (b==c) (blX (AB X i) (md i) (BF md X c 0 i)) (BF md X c 0 i):=fun c=>by rw [← hb];rfl
  have hpj:∀ j (hj:j<B.length),(bln (B.map fun b=>BF md X b 0 i) j).p=B[j]:=fun j hj=>by
   rw [gR (by rw [List.length_map];exact hj),List.getElem_map,zM]
  have ple:=N8 (fun j=>(bln (B.map fun b=>BF md X b 0 i) j).p==b) (B.map fun b=>BF md X b 0 i).length 0;have pno:=UQ (fun j=>(bln (B.map fun b=>BF md X b 0 i) j).p==b) (B.map fun b=>BF md X b 0 i).length 0;have pyes:=Qk (fun j=>(bln (B.map fun b=>BF md X b 0 i) j).p==b) (B.map fun b=>BF md X b 0 i).length 0;unfold nJ;rw [hb];change Es b (B.map fun b=>BF md X b 0 i)≤_ at ple;change ∀ j,0≤j→j<Es b (B.map fun b=>BF md X b 0 i)→_ at pno;change Es b (B.map fun b=>BF md X b 0 i)<_→((bln (B.map fun b=>BF md X b 0 i) (Es b (B.map fun b=>BF md X b 0 i))).p==b)=true at pyes;rw [Nat.zero_add,List.length_map] at ple;rw [Nat.zero_add,List.length_map] at pyes;unfold Z8;rw [List.length_map];generalize Es b (B.map fun b=>BF md X b 0 i)=p at *
  by_cases hp:p<B.length
  ·have hbp:B[p]=b:=by rw [← hpj p hp];exact beq_iff_eq.1 (pyes hp)
   have hany:B.any (·==b)=true:=List.any_eq_true.2 ⟨b,by rw [← hbp];exact List.getElem_mem hp,beq_self_eq_true b⟩;rw [nU hp,hany,cond_true,cond_true];apply List.ext_getElem
   ·simp
   ·intro j h1 h2o;have h2:j<B.length:=by rw [List.length_map] at h2o;exact h2o
    rw [List.getElem_set,show (List.map (fun b=>BF md X b 0 (i+1)) B)[j]'h2o=BF md X B[j] 0 (i+1) from List.getElem_map _,ls1]
    by_cases hj:p=j
    ·subst hj;rw [if_pos rfl,hbp,beq_self_eq_true,cond_true,gR (by rw [List.length_map];exact hp),List.getElem_map,hbp]
    ·rw [if_neg hj,List.getElem_map];have:¬ b=B[j]:=fun e=>hj (by
      rcases Nat.lt_trichotomy p j with h | h | h
      ·exact absurd (hbp.trans e) (List.pairwise_iff_getElem.1 nd p j hp h2 h)
      ·exact h
      ·exact absurd (e.symm.trans hbp.symm) (List.pairwise_iff_getElem.1 nd j p h2 hp h))
     rw [beq_eq_false_iff_ne.2 this,cond_false]
  ·obtain rfl:p=B.length:=by omega
   have hno:b∉B:=fun hm=>by
    obtain ⟨j,hj,e⟩:=List.getElem_of_mem hm;have:=pno j (Nat.zero_le _) hj;change ((bln (B.map fun b=>BF md X b 0 i) j).p==b)=false at this;rw [hpj j hj,e,beq_self_eq_true] at this;cases this
   have hany:B.any (·==b)=false:=by
    cases h:B.any (·==b) with
    | false=>rfl
    | true =>
     obtain ⟨y,hy,hye⟩:=List.any_eq_true.1 h;exact absurd (beq_iff_eq.1 hye▸hy) hno
   have hz:BF md X b 0 i=zBL b 0:=uo md X b 0 i (by rw [hB];exact hno);rw [mL hp,hany,cond_false,cond_false,List.map_append];have hs:bln ((B.map fun b=>BF md X b 0 i)++[zBL b 0]) B.length=zBL b 0:=by
    rw [gR (by simp),List.getElem_append_right (by simp)];simp
   rw [hs,List.set_append_right _ _ (by simp)];have e1:(B.map fun b=>BF md X b 0 (i+1))=B.map fun b=>BF md X b 0 i:=List.map_congr_left (fun c hc=>by
    rw [ls1,beq_eq_false_iff_ne.2 (fun e=>hno (by rw [e];exact hc)),cond_false])
   rw [e1];simp only [List.length_map,Nat.sub_self,List.set_cons_zero,List.map_cons,List.map_nil,ls1,beq_self_eq_true,cond_true,hz]
def mdP (md:Nat→Bool) (X:Rows) (b:Int):Nat→Int
 | 0=>0
 | i+1=>cond (pvI (AA (AB X i) 4)==b&&md i) (wr6 (mdP md X b i+1)) (mdP md X b i)
theorem zt (md:Nat→Bool) (X:Rows) (b m0:Int):∀ i,BF md X b 0 i={ BF (fun _=>false) X b m0 i with m:=mdP md X b i }∧(BF (fun _=>false) X b m0 i).m=m0
 | 0=>⟨rfl,rfl⟩
 | i+1=>by
  obtain ⟨h1,h2⟩:=zt md X b m0 i;have e1:BF md X b 0 (i+1)=cond (pvI (AA (AB X i) 4)==b) (blX (AB X i) (md i) (BF md X b 0 i)) (BF md X b 0 i):=rfl;have e2:BF (fun _=>false) X b m0 (i+1)=cond (pvI (AA (AB X i) 4)==b) (blX (AB X i) false (BF (fun _=>false) X b m0 i)) (BF (fun _=>false) X b m0 i):=rfl;have e3:mdP md X b (i+1)=cond (pvI (AA (AB X i) 4)==b&&md i) (wr6 (mdP md X b i+1)) (mdP md X b i):=rfl;rw [e1,e2,e3];rw [h1];cases pvI (AA (AB X i) 4)==b with
  | false=>exact ⟨rfl,h2⟩
  | true =>
   cases md i with
   | false=>exact ⟨rfl,h2⟩
   | true=>exact ⟨rfl,h2⟩
theorem ACa (md:Nat→Bool) (X:Rows) (b:Int) (i:Nat):BF md X b 0 i=BF (fun _=>false) X b (mdP md X b i) i:=by
 obtain ⟨h1,h2⟩:=zt md X b (mdP md X b i) i;rw [h1];generalize BF (fun _=>false) X b (mdP md X b i) i=s at *
 cases s;simp only at h2;rw [h2]
def Ia (X:Rows) (o b:Int) (j:Nat):Bool:=(pvI (AA (AB X j) 2)==o)&&(!(pvI (AA (AB X j) 4)==b) || !(pvI (AA (AB X j) 25)==0))
def Hm (X:Rows) (o:Int):Nat→Int
 | 0=>0
 | j+1=>cond ((pvI (AA (AB X j) 2)==o)&&pvB (AA (AB X j) 26)) (wr6 (Hm X o j+1)) (Hm X o j)
def mdS (bal:Int) (X:Rows) (o b:Int):Bool := !Nat.blt (Ji (Ia X o b) X.length 0) X.length&&(Hm X o X.length==bal)
def dq (X:Rows) (i:Nat):Bool:=Nat.beq i 0 || !(pvI (AA (AB X (i - 1)) 2)==pvI (AA (AB X i) 2))
def mdA (bal:Int) (X:Rows) (i:Nat):Bool:=dq X i&&mdS bal X (pvI (AA (AB X i) 2)) (pvI (AA (AB X i) 4))
def Jc (X:Rows) (o b:Int):Nat→Bool
 | 0=>true
 | j+1=>cond (pvI (AA (AB X j) 2)==o) (Jc X o b j&&(pvI (AA (AB X j) 4)==b)) (Jc X o b j)
def Du (X:Rows) (o:Int):Nat→Int
 | 0=>0
 | j+1=>cond (pvI (AA (AB X j) 2)==o) (wr6 (Du X o j+pvI (AA (AB X j) 25))) (Du X o j)
def mdR (bal:Int) (X:Rows) (b:Int):Nat→Int
 | 0=>0
 | i+1=>cond (dq X i&&(Jc X (pvI (AA (AB X i) 2)) b X.length&&(Du X (pvI (AA (AB X i) 2)) X.length==0)&&(Hm X (pvI (AA (AB X i) 2)) X.length==bal))) (wr6 (mdR bal X b i+1)) (mdR bal X b i)
theorem xO (X:Rows) (o b:Int):∀ n,Jc X o b n=true↔∀ j,j<n→(pvI (AA (AB X j) 2)==o)=true→(pvI (AA (AB X j) 4)==b)=true
 | 0=>⟨fun _ j h=>absurd h (Nat.not_lt_zero j),fun _=>rfl⟩
 | n+1=>by
  have ih:=xO X o b n;show cond _ (Jc X o b n&&_) (Jc X o b n)=true↔_;cases ho:pvI (AA (AB X n) 2)==o with
  | false =>
   rw [cond_false,ih];refine ⟨fun h j hj hjo=>?_,fun h j hj=>h j (by omega)⟩
   rcases Nat.lt_or_ge j n with hl | hl
   ·exact h j hl hjo
   ·obtain rfl:j=n:=by omega
    rw [ho] at hjo;cases hjo
  | true =>
   rw [cond_true,Bool.and_eq_true,ih];refine ⟨fun h j hj hjo=>?_,fun h=>⟨fun j hj=>h j (by omega),h n (by omega) ho⟩⟩
   rcases Nat.lt_or_ge j n with hl | hl
   ·exact h.1 j hl hjo
   ·obtain rfl:j=n:=by omega
    exact h.2
theorem xP (X : Rows) (o : Int) : ∀ n, n ≤ 100000 → (∀ j, j < n → 0 ≤ pvI (AA (AB X j) 25) ∧ pvI (AA (AB X j) 25) ≤ 1000) →
    0≤Du X o n∧Du X o n≤1000 * (n:Int)∧(Du X o n=0↔∀ j,j<n→(pvI (AA (AB X j) 2)==o)=true→pvI (AA (AB X j) 25)=0)
  | 0,_,_=>⟨Int.le_refl _,Int.le_refl _,⟨fun _ j h=>absurd h (Nat.not_lt_zero j),fun _=>rfl⟩⟩
  | n+1,hn,h=>by
    obtain ⟨a1,a2,a3⟩:=xP X o n (by omega) (fun j hj=>h j (by omega));have hb:=h n (by omega);show 0≤cond _ (wr6 (Du X o n+_)) (Du X o n)∧cond _ (wr6 (Du X o n+_)) (Du X o n)≤_∧(cond _ (wr6 (Du X o n+_)) (Du X o n)=0↔_);cases ho:pvI (AA (AB X n) 2)==o with
    | false =>
      rw [cond_false];refine ⟨a1,by omega,a3.trans ⟨fun h j hj hjo=>?_,fun h j hj=>h j (by omega)⟩⟩
      rcases Nat.lt_or_ge j n with hl | hl
      · exact h j hl hjo
      · obtain rfl:j=n:=by omega
        rw [ho] at hjo;cases hjo
    | true =>
      rw [cond_true];have hw:wr6 (Du X o n+pvI (AA (AB X n) 25))=Du X o n+pvI (AA (AB X n) 25):=B3 (by omega) (by omega);rw [hw];refine ⟨by omega,by omega,⟨fun he j hj hjo=>?_,fun he=>?_⟩⟩
      · rcases Nat.lt_or_ge j n with hl | hl
        · exact a3.1 (by omega) j hl hjo
        · obtain rfl:j=n:=by omega
          omega
      · have e1:=a3.2 (fun j hj=>he j (by omega));have e2:=he n (by omega) ho;omega
theorem xU {bal:Int} {X:Rows} {o b:Int}:mdS bal X o b=true↔(∀ j,j<X.length→(pvI (AA (AB X j) 2)==o)=true→(pvI (AA (AB X j) 4)==b)=true∧pvI (AA (AB X j) 25)=0)∧(Hm X o X.length==bal)=true:=by
 unfold mdS;rw [Bool.and_eq_true];refine and_congr_left (fun _=>?_);have ple:=N8 (Ia X o b) X.length 0;have pno:=UQ (Ia X o b) X.length 0;have pyes:=Qk (Ia X o b) X.length 0;rw [Nat.zero_add] at ple pyes;generalize Ji (Ia X o b) X.length 0=p at *
 constructor
 ·intro h j hj hjo;have hp:¬ p<X.length:=fun hl=>by rw [nU hl] at h;cases h
  have:=pno j (Nat.zero_le _) (by omega);unfold Ia at this;rw [hjo,Bool.true_and,Bool.or_eq_false_iff,Bool.not_eq_false',Bool.not_eq_false'] at this;exact ⟨this.1,beq_iff_eq.1 this.2⟩
 ·intro h;rw [mL (fun hl=>?_)];rfl;have:=pyes hl;unfold Ia at this;rw [Bool.and_eq_true] at this;obtain ⟨h1,h2⟩:=h _ hl this.1;have h3:=this.2;simp only [beq_iff_eq.1 h1,h2,beq_self_eq_true] at h3;exact absurd h3 (by decide)
theorem AAu {bal:Int} {X:Rows} (hX:X.length≤100000) (h:∀ j,j<X.length→0≤pvI (AA (AB X j) 25)∧pvI (AA (AB X j) 25)≤1000) (b:Int):∀ i,i≤X.length→mdR bal X b i=mdP (mdA bal X) X b i
 | 0,_=>rfl
 | i+1,hi=>by
  have ih:=AAu (bal:=bal) hX h b i (by omega);show cond _ (wr6 (mdR bal X b i+1)) (mdR bal X b i)=cond _ (wr6 (mdP (mdA bal X) X b i+1)) (mdP (mdA bal X) X b i);rw [ih];refine congrArg (fun z=>cond z _ _) ?_;unfold mdA;rw [Bool.and_left_comm (pvI (AA (AB X i) 4)==b)];refine congrArg (dq X i&&·) ?_;obtain ⟨_,_,s3⟩:=xP X (pvI (AA (AB X i) 2)) X.length hX h;rw [Bool.eq_iff_iff,Bool.and_eq_true,Bool.and_eq_true,Bool.and_eq_true,xO,beq_iff_eq (a:=Du X _ _),s3];constructor
  ·rintro ⟨⟨h1,h2⟩,h3⟩
   have hbi:=h1 i (by omega) (beq_self_eq_true _);rw [beq_iff_eq.1 hbi];exact ⟨beq_self_eq_true _,xU.2 ⟨fun j hj hjo=>⟨h1 j hj hjo,h2 j hj hjo⟩,h3⟩⟩
  ·rintro ⟨h1,h2⟩
   rw [beq_iff_eq.1 h1] at h2;obtain ⟨h3,h4⟩:=xU.1 h2;exact ⟨⟨fun j hj hjo=>(h3 j hj hjo).1,fun j hj hjo=>(h3 j hj hjo).2⟩,h4⟩
end Go.Px
end
section
namespace Go.Px
set_option maxRecDepth 100000
set_option maxHeartbeats 2000000 in
theorem VK {N:Nat} {r8:Bool} {r0:ByteArray} {r13:Rows} {X:Rows} {o:Int} {b:Int} (hN:2097152<N) (hX:X.length≤1000000):IZ N [.str r0,.int r1,.int r2,.int r3,.int r4,.int r5,.int r6,.int r7,.bool r8,.int r9,.int r10,.int r11,.int r12,.rows r13,.rows X,.int o,.int b]=some [.bool (mdS r4 X o b)]:=by
 show IU (std (SK N) N) (xOf _)=_;simp only [IU,Alg.q,std,xOf,PXb];have ple:=N8 (Ia X o b) X.length 0;have pno:=UQ (Ia X o b) X.length 0;have pyes:=Qk (Ia X o b) X.length 0;rw [Nat.zero_add] at ple pyes;refine AM (fq (len:=X.length) (p:=Ji (Ia X o b) X.length 0) (fun i=>[.int (Hm X o i),.int (i:Int)]) [.int 0,.bool false] [.int 1,.int (Hm X o X.length)] ple ?_ ?_ ?_ N (by omega)) ?_
 ·intro _ self;simp only [PXb,PXc,PXn,AD,Ao]
 ·intro i self hi;have hb:=pno i (Nat.zero_le _) hi;unfold Ia at hb;have hl:i<X.length:=by omega
  simp only [PXb,PXc,PXn,AD,Bq (show i≤1099511627776 by omega),Ad hl,AN hl,AK,Hm];cases h1:pvI (AA (AB X i) 2)==o with
  | false=>rfl
  | true =>
   rw [h1,Bool.true_and] at hb;cases h2:pvI (AA (AB X i) 4)==b<;>cases h3:pvI (AA (AB X i) 25)==0<;>rw [h2,h3] at hb<;>first | (cases hb;done) | (cases pvB (AA (AB X i) 26)<;>rfl)
 ·intro hl self;have hb:=pyes hl;generalize Ji (Ia X o b) X.length 0=p at *
  unfold Ia at hb;simp only [PXb,PXc,PXn,AD,Ad hl,AN hl,AK];cases h1:pvI (AA (AB X p) 2)==o<;>cases h2:pvI (AA (AB X p) 4)==b<;>cases h3:pvI (AA (AB X p) 25)==0<;>rw [h1,h2,h3] at hb<;>first | (cases hb;done) | rfl
 ·unfold mdS;cases Nat.blt (Ji (Ia X o b) X.length 0) X.length<;>rfl
set_option maxHeartbeats 4000000 in
theorem rb {N:Nat} {r8:Bool} {r0:ByteArray} {r13:Rows} {X:Rows} {b:Int} (hN:2097152<N) (hX:X.length≤1000000):I0 N [.str r0,.int r1,.int r2,.int r3,.int r4,.int r5,.int r6,.int r7,.bool r8,.int r9,.int r10,.int r11,.int r12,.rows r13,.rows X,.int b]=some [.int (mdR r4 X b X.length)]:=by
  show Mx (std (WQ N) N) (xOf _)=_;simp only [Mx,Alg.q,std,xOf,PXb];have inner : ∀ {F : (List Ae → Option (List PV)) → List PV → Option (List PV)} (o : Int),
      (∀ w s n self,F self [.bool w,.int s,.int n,.int (X.length:Int)]=some [.bool w,.int s,.int n,.int (X.length:Int)]) →
      (∀ j w s n self,j<X.length→F self [.bool w,.int s,.int n,.int (j:Int)]=self [.bool (cond (pvI (AA (AB X j) 2)==o) (w&&(pvI (AA (AB X j) 4)==b)) w),.int (cond (pvI (AA (AB X j) 2)==o) (wr6 (s+pvI (AA (AB X j) 25))) s),.int (cond ((pvI (AA (AB X j) 2)==o)&&pvB (AA (AB X j) 26)) (wr6 (n+1)) n),.int ((j+1:Nat):Int)]) →
      Ds F N [.bool true,.int 0,.int 0,.int 0]=some [.bool (Jc X o b X.length),.int (Du X o X.length),.int (Hm X o X.length),.int (X.length:Int)]:=fun {F} o f0 f1 =>
    Bz (F:=F) (len:=X.length) (fun j=>[.bool (Jc X o b j),.int (Du X o j),.int (Hm X o j),.int (j:Int)]) [.bool (Jc X o b X.length),.int (Du X o X.length),.int (Hm X o X.length),.int (X.length:Int)] (fun self=>f0 _ _ _ self) (fun j self hj=>f1 j _ _ _ self hj) N (by omega)
  refine AM (Bz (len:=X.length) (fun i=>[.int (mdR r4 X b i),.int (i:Int)]) [.int (mdR r4 X b X.length)] ?_ ?_ N (by omega)) rfl
  · intro self;simp only [PXb,PXc,PXn,AD,Ao]
  · intro i self hi;have e:mdR r4 X b (i+1)=cond (dq X i&&(Jc X (pvI (AA (AB X i) 2)) b X.length&&(Du X (pvI (AA (AB X i) 2)) X.length==0)&&(Hm X (pvI (AA (AB X i) 2)) X.length==r4))) (wr6 (mdR r4 X b i+1)) (mdR r4 X b i):=rfl;rw [e];have go : ∀ nf : Bool, dq X i = !nf → ∀ {K : Option (List PV)}, K = cond nf (self [.int (mdR r4 X b i), .int ((i + 1 : Nat) : Int)]) (self [.int (cond (Jc X (pvI (AA (AB X i) 2)) b X.length && (Du X (pvI (AA (AB X i) 2)) X.length == 0) && (Hm X (pvI (AA (AB X i) 2)) X.length == r4)) (wr6 (mdR r4 X b i + 1)) (mdR r4 X b i)), .int ((i + 1 : Nat) : Int)]) →
        K=self [.int (cond (dq X i&&(Jc X (pvI (AA (AB X i) 2)) b X.length&&(Du X (pvI (AA (AB X i) 2)) X.length==0)&&(Hm X (pvI (AA (AB X i) 2)) X.length==r4))) (wr6 (mdR r4 X b i+1)) (mdR r4 X b i)),.int ((i+1:Nat):Int)]:=fun nf h {K} hK=>by
      rw [hK,h];cases nf<;>rfl
    have tail : ∀ {F : (List Ae → Option (List PV)) → List PV → Option (List PV)} {k : List PV → Option (List PV)}, Ds F N [.bool true, .int 0, .int 0, .int 0] = some [.bool (Jc X (pvI (AA (AB X i) 2)) b X.length), .int (Du X (pvI (AA (AB X i) 2)) X.length), .int (Hm X (pvI (AA (AB X i) 2)) X.length), .int (X.length : Int)] →
        (k [.bool (Jc X (pvI (AA (AB X i) 2)) b X.length),.int (Du X (pvI (AA (AB X i) 2)) X.length),.int (Hm X (pvI (AA (AB X i) 2)) X.length),.int (X.length:Int)]=self [.int (cond (Jc X (pvI (AA (AB X i) 2)) b X.length&&(Du X (pvI (AA (AB X i) 2)) X.length==0)&&(Hm X (pvI (AA (AB X i) 2)) X.length==r4)) (wr6 (mdR r4 X b i+1)) (mdR r4 X b i)),.int ((i+1:Nat):Int)]) →
        (Ds F N [.bool true,.int 0,.int 0,.int 0]).bind k=self [.int (cond (Jc X (pvI (AA (AB X i) 2)) b X.length&&(Du X (pvI (AA (AB X i) 2)) X.length==0)&&(Hm X (pvI (AA (AB X i) 2)) X.length==r4)) (wr6 (mdR r4 X b i+1)) (mdR r4 X b i)),.int ((i+1:Nat):Int)]:=fun {F k} h hk=>AM h hk
    cases i with
    | zero =>
      refine go false rfl ?_;have z1:iLt 0 ((0:Nat):Int)=false:=rfl;simp only [PXb,PXc,PXn,AD,Bq (show (0:Nat)≤1099511627776 by omega),Ad hi,AN hi,AK,z1,Bool.false_and,Bool.not_false];refine tail (inner _ ?_ ?_) ?_
      · intro w s n self;simp only [PXb,PXc,PXn,AD,Ao]
      · intro j w s n self hj;simp only [PXb,PXc,PXn,AD,Bq (show j≤1099511627776 by omega),Ad hj,AN hj,AK];cases pvI (AA (AB X j) 2)==_<;>cases pvB (AA (AB X j) 26)<;>cases w<;>rfl
      · simp only [PXb,PXc,PXn,AD];cases Jc X (pvI (AA (AB X 0) 2)) b X.length<;>cases Du X (pvI (AA (AB X 0) 2)) X.length==0<;>cases Hm X (pvI (AA (AB X 0) 2)) X.length==r4<;>rfl
    | succ k =>
      refine go (pvI (AA (AB X k) 2)==pvI (AA (AB X (k+1)) 2)) rfl ?_;have z1:iLt 0 ((k+1:Nat):Int)=true:=by simp only [iLt,decide_eq_true_eq];omega
      have z2:IntKind.i64.wrap (((k+1:Nat):Int) - 1)=(k:Int):=by rw [B3 (by omega) (by omega)];omega
      have hk:k<X.length:=by omega
      simp only [PXb,PXc,PXn,AD,Bq (show k+1≤1099511627776 by omega),Ad hi,AN hi,AK,z1,z2,AN hk,Bool.true_and,Bool.not_true,Bool.not_false,Int.toNat_natCast];cases pvI (AA (AB X k) 2)==pvI (AA (AB X (k+1)) 2) with
      | true=>rfl
      | false =>
        refine tail (inner _ ?_ ?_) ?_
        · intro w s n self;simp only [PXb,PXc,PXn,AD,Ao]
        · intro j w s n self hj;simp only [PXb,PXc,PXn,AD,Bq (show j≤1099511627776 by omega),Ad hj,AN hj,AK];cases pvI (AA (AB X j) 2)==_<;>cases pvB (AA (AB X j) 26)<;>cases w<;>rfl
        · simp only [PXb,PXc,PXn,AD];cases Jc X (pvI (AA (AB X (k+1)) 2)) b X.length<;>cases Du X (pvI (AA (AB X (k+1)) 2)) X.length==0<;>cases Hm X (pvI (AA (AB X (k+1)) 2)) X.length==r4<;>rfl
set_option maxHeartbeats 4000000 in
theorem zY {N:Nat} {r8:Bool} {r0:ByteArray} {r13:Rows} {X:Rows} {b:Int} (hN:2097152<N) (hX:X.length≤1000000):To N [.str r0,.int r1,.int r2,.int r3,.int r4,.int r5,.int r6,.int r7,.bool r8,.int r9,.int r10,.int r11,.int r12,.rows r13,.rows X,.int b]=some (BF (fun _=>false) X b (mdR r4 X b X.length) X.length).ls:=by
 show Tn (std (Un N) N) (xOf _)=_;simp only [Tn,Xk,Alg.q,std,xOf,PXb,rb hN hX];generalize mdR r4 X b X.length=m;refine AM (Bz (len:=X.length) (fun i=>.int (i:Int)::(BF (fun _=>false) X b m i).lf) (BF (fun _=>false) X b m X.length).ls ?_ ?_ N (by omega)) rfl
 ·intro self;simp only [PXb,PXc,PXn,AD,Ao,BL.lf,BL.ls]
 ·intro i self hi;have e:BF (fun _=>false) X b m (i+1)=cond (pvI (AA (AB X i) 4)==b) (blX (AB X i) false (BF (fun _=>false) X b m i)) (BF (fun _=>false) X b m i):=rfl;rw [e];generalize BF (fun _=>false) X b m i=s;simp only [PXb,PXc,PXn,AD,Bq (show i≤1099511627776 by omega),Ad hi,AN hi,AK,BL.lf];unfold blX;cases pvI (AA (AB X i) 4)==b with
  | false=>rfl
  | true =>
   cases pvB (AA (AB X i) 26)<;>cases pvB (AA (AB X i) 28)<;>cases pvI (AA (AB X i) 8)==2<;>cases pvI (AA (AB X i) 8)==3<;>rfl
end Go.Px
end
