/- Part 15. -/
import Derived.Test.YtdpnocjfbplgjaaGreatPart14
import Derived.KernelRfl
set_option linter.unusedVariables false
set_option linter.unusedSimpArgs false
section
namespace Go.Px
set_option maxRecDepth 100000
theorem ABF (xs:List (Int×Int)) (k:Nat) (s:Int×Int) (i:Nat) (hi:i<xs.length):pr (xs.set k s) i=(if k=i then s else pr xs i):=by
 rw [Zt,Zt,List.getElem?_set]
 by_cases h:k=i
 ·subst h
  rw [if_pos rfl,if_pos rfl,if_pos hi]
 ·rw [if_neg h,if_neg h]
theorem ABA (xs:List (Int×Int)) (s:Int×Int) (i:Nat) (hi:i<xs.length+1):pr (xs++[s]) i=(if i<xs.length then pr xs i else s):=by
 rw [Zt,Zt]
 by_cases h:i<xs.length
 ·rw [if_pos h,List.getElem?_append_left h]
 ·have:i=xs.length:=by omega
  subst this
  rw [if_neg h,List.getElem?_append_right (Nat.le_refl _),Nat.sub_self]
  rfl
theorem Za {L:Rows} {i:Nat} (h:((evR L i).kind==2)=true):opn L (i+1)=opn L i+1:=by
 show opn L i+cond ((evR L i).kind==2) 1 0=_
 rw [h]
 rfl
theorem tV {L:Rows} {i:Nat} (h:((evR L i).kind==2)=false):opn L (i+1)=opn L i:=by
 show opn L i+cond ((evR L i).kind==2) 1 0=_
 rw [h]
 rfl
theorem rZ {L : Rows} (hL : L.length ≤ 1048576) : ∀ i, i ≤ L.length → ∀ k, k < opn L i → ∃ a : Nat, (pr (Bv L i) k).1 = (a : Int) ∧ a < i ∧ opn L a = k ∧ ((evR L a).kind == 2) = true ∧
    ((k+1<opn L i∧∃ b:Nat,(pr (Bv L i) k).2=(b:Int)∧b<i∧opn L b=k+1∧((evR L b).kind==2)=true)∨(k+1=opn L i∧(pr (Bv L i) k).2=(L.length:Int)))
  | 0,_,k,hk=>absurd hk (Nat.not_lt_zero k)
  | i+1,hi,k,hk=>by
    have ih:=rZ hL i (by omega)
    cases h2:(evR L i).kind==2 with
    | false =>
      rw [tV h2] at hk ⊢
      rw [jb h2]
      obtain ⟨a,h3,h4,h5,h6,h7⟩:=ih k hk
      refine ⟨a,h3,by omega,h5,h6,?_⟩
      rcases h7 with ⟨q,b,q1,q2,q3,q4⟩ | q
      · exact Or.inl ⟨q,b,q1,by omega,q3,q4⟩
      · exact Or.inr q
    | true =>
      rw [Za h2] at hk ⊢
      have sl:=X9 L i
      have hle:=qw L i
      have ha:=fun (j:Nat) (hj:j<opn L i+1)=>ABA (HN (Bv L i) (i:Int)) ((i:Int),(L.length:Int)) j (by rw [XY,sl];exact hj)
      have e:Bv L (i+1)=HN (Bv L i) (i:Int)++[((i:Int),(L.length:Int))]:=by
        show cond ((evR L i).kind==2) _ _=_
        rw [h2]
        rfl
      rw [e,ha k hk,XY,sl]
      by_cases hkn:k<opn L i
      · rw [if_pos hkn]
        obtain ⟨a,h3,h4,h5,h6,h7⟩:=ih k hkn
        have hp:0<opn L i:=by omega
        have ix:=(nF hp (by omega)).1
        have es:HN (Bv L i) (i:Int)=(Bv L i).set (opn L i - 1) ((pr (Bv L i) (opn L i - 1)).1,(i:Int)):=by
          unfold HN
          rw [sl,show iLt 0 (opn L i:Int)=true by simp only [iLt,decide_eq_true_eq];omega,ix]
          rfl
        rw [es,ABF _ _ _ _ (by rw [sl];exact hkn)]
        by_cases hl:opn L i - 1=k
        · rw [if_pos hl,hl]
          exact ⟨a,h3,by omega,h5,h6,Or.inl ⟨by omega,i,rfl,by omega,by omega,h2⟩⟩
        · rw [if_neg hl]
          refine ⟨a,h3,by omega,h5,h6,Or.inl ⟨by omega,?_⟩⟩
          rcases h7 with ⟨q,b,q1,q2,q3,q4⟩ | q
          · exact ⟨b,q1,by omega,q3,q4⟩
          · omega
      · have hke:k=opn L i:=by omega
        rw [if_neg hkn]
        exact ⟨i,rfl,by omega,hke.symm,h2,Or.inr ⟨by omega,rfl⟩⟩
theorem zR {L:Rows} {a b:Nat} (h:opn L a=opn L b) (ha:((evR L a).kind==2)=true) (hb:((evR L b).kind==2)=true):a=b:=by
 rcases Nat.lt_trichotomy a b with h1 | h1 | h1
 ·have:=KP L (show a+1≤b by omega)
  have:=Za ha
  omega
 ·exact h1
 ·have:=KP L (show b+1≤a by omega)
  have:=Za hb
  omega
def Ek (L:Rows) (k:Nat):Nat:=if k<opn L L.length then (pr (Bv L L.length) k).1.toNat else L.length
structure Seg (L:Rows) (k:Nat):Prop where
 x0:(pr (Bv L L.length) k).1=(Ek L k:Int)
 x1:(pr (Bv L L.length) k).2=(Ek L (k+1):Int)
 lt:Ek L k<Ek L (k+1)
 le:Ek L (k+1)≤L.length
 o0:opn L (Ek L k)=k
 o1:opn L (Ek L (k+1))=k+1
 mid:∀ j,Ek L k≤j→j<Ek L (k+1)→opn L (j+1)=k+1
theorem seg {L:Rows} (hL:L.length≤1048576) {k:Nat} (h:k<opn L L.length):Seg L k:=by
 obtain ⟨a,h1,h2,h3,h4,h5⟩:=rZ hL L.length (Nat.le_refl _) k h
 have p0:Ek L k=a:=by unfold Ek;rw [if_pos h,h1];rfl
 have key:(pr (Bv L L.length) k).2=(Ek L (k+1):Int)∧a<Ek L (k+1)∧Ek L (k+1)≤L.length∧opn L (Ek L (k+1))=k+1:=by
  rcases h5 with ⟨q,b,q1,q2,q3,q4⟩ | ⟨q,q1⟩
  ·obtain ⟨a',g1,g2,g3,g4,_⟩:=rZ hL L.length (Nat.le_refl _) (k+1) q
   have e:a'=b:=zR (g3.trans q3.symm) g4 q4
   subst e
   have p1:Ek L (k+1)=a':=by unfold Ek;rw [if_pos q,g1];rfl
   rw [p1]
   refine ⟨q1,?_,by omega,q3⟩
   rcases Nat.lt_or_ge a a' with hl | hl
   ·exact hl
   ·have:=KP L hl
    omega
  ·have p1:Ek L (k+1)=L.length:=by unfold Ek;rw [if_neg (by omega)]
   rw [p1]
   exact ⟨q1,h2,Nat.le_refl _,q.symm⟩
 obtain ⟨k1,k2,k3,k4⟩:=key
 refine ⟨by rw [h1,p0],k1,by rw [p0];exact k2,k3,by rw [p0];exact h3,k4,fun j j1 j2=>?_⟩
 rw [p0] at j1
 have m1:=KP L (show a+1≤j+1 by omega)
 have m2:=KP L (show j+1≤Ek L (k+1) by omega)
 rw [Za h4] at m1
 omega
theorem zn {L:Rows} {f:Ev→Int} {c:Int} (hf:∀ e,0≤f e∧f e≤c) (j:Nat):∀ i:Nat,0≤smi L f j i∧smi L f j i≤c * (i:Int)
 | 0=>by
  have:smi L f j 0=0:=rfl
  rw [this]
  omega
 | i+1=>by
  have ih:=zn (L:=L) hf j i
  have h1:=hf (evR L i)
  rw [ri,show c * ((i+1:Nat):Int)=c * (i:Int)+c by rw [show ((i+1:Nat):Int)=(i:Int)+1 by omega,Int.mul_add,Int.mul_one]]
  have h2:=hf (evR L i)
  generalize c * (i:Int)=z at ih ⊢
  cases Nat.beq (opn L (i+1)) (j+1)<;>simp only [cond_true,cond_false]<;>omega
structure Sml (x:Sco):Prop where
 runs:0≤x.runs∧x.runs≤1000000
 wk:0≤x.wickets∧x.wickets≤1000000
 balls:0≤x.balls∧x.balls≤1000000
 wides:0≤x.wides∧x.wides≤1000000
 no:0≤x.noballs∧x.noballs≤1000000
 bb:0≤x.byes∧x.byes≤1000000
 lb:0≤x.legbyes∧x.legbyes≤1000000
 pens:0≤x.pens∧x.pens≤1000000
end Go.Px
end
section
namespace Go.Px
set_option maxRecDepth 100000
structure InLog (L:Rows):Prop where
 len:L.length≤4000
 pen:∀ j,j<L.length→((evR L j).kind==13)=true→1≤opn L (j+1)
end Go.Px
end
section
namespace Go.Px
set_option maxRecDepth 100000
theorem V1 {r:Rul} {L:Rows} (h:DC r L=0):((AW r).2==0)=true∧A1 r=0∧L.length≤4000∧acc L L.length 0 (AW r).1∧BF r L=(stM L L.length 0 (AW r).1,-1,0):=by
 unfold DC at h
 cases hc:A1 r==0 with
 | false=>rw [hc] at h;rw [show A1 r=0 from h] at hc;cases hc
 | true =>
  cases hl:iLt 4000 (L.length:Int) with
  | true=>rw [hc,hl] at h;cases h
  | false =>
   cases hr:(BF r L).2.2==0 with
   | false=>rw [hc,hl,hr] at h;cases h
   | true =>
    have hn:=(yv r).trans hc
    have hrep:BF r L=Cq L L.length 0 (AW r).1:=by unfold BF;rw [hn];rfl
    obtain ⟨k,h1,h2,h3,h4⟩:=ZH L L.length 0 (AW r).1
    have l4:L.length≤4000:=by simp only [iLt,decide_eq_false_iff_not] at hl;omega
    rcases h4 with ⟨h5,h6⟩ | ⟨h5,h6,h7⟩
    ·subst h5
     exact ⟨hn,beq_iff_eq.1 hc,l4,h2,hrep.trans h6⟩
    ·rw [hrep,h7] at hr
     rw [h6] at hr
     cases hr
end Go.Px
end
section
namespace Go.Px
set_option maxRecDepth 100000
theorem xw {N:Nat} {L:Rows}  : SF N [.rows L]=some [.rows (cut L 60)]:=by
 show Rj (std (ME N) N) (xOf _)=_
 simp only [Rj,std,xOf,PXb,PXc,PXn,PXm,Nat.reduceAdd,Int.reduceBEq,ABO (show (0:Int)≤60 by omega)]
 rfl
def OG (k s p o:Int) (y:Bool) (t f n b h v:Int):List PV:=[.int k,.int s,.int p,.int o,.bool y,.int 0,.int 0,.int t,.int f,.int n,.int 0,.int b,.bool false,.int h,.int v,.int 0,.int 0,.bool false,.int 0]
def Q6:Rows:=[OG 1 1 0 0 true 0 0 0 0 0 0,OG 2 0 1 2 false 0 0 0 0 0 0,OG 8 0 2 0 false 0 0 0 0 0 0,OG 3 0 1 0 false 0 0 0 0 0 0,OG 4 0 0 0 false 1 1 1 0 0 0,OG 4 0 0 0 false 1 0 0 0 1 1,OG 2 0 2 1 false 0 0 0 0 0 0,OG 8 0 1 0 false 0 0 0 0 0 0,OG 3 0 2 0 false 0 0 0 0 0 0,OG 4 0 0 0 false 2 0 0 0 0 0,OG 4 0 0 0 false 1 1 0 4 0 0]
def Q8:Rul:=⟨⟨#[84,69,83,84]⟩,2,1,1,4,0,1,1,false,0,0,0,11,[]⟩
theorem ABK:Rf 4194304 []=some [.rows Q6]:=by kernel_rfl
theorem AAR:Ly 4194304 []=some Q8.ls:=by kernel_rfl
theorem Ty {x:Option (List PV)} {v:List PV} {f:List PV→Option (List PV)} {r:Option (List PV)} (h:x=some v) (hk:f v=r):x.bind f=r:=by rw [h];exact hk
end Go.Px
end
section
namespace Go.Px
set_option maxRecDepth 100000
structure Up (x y:Sco):Prop where
 side:y.side=x.side
 runs:x.runs≤y.runs
 wk:x.wickets≤y.wickets
 balls:x.balls≤y.balls
theorem Up.refl (x:Sco):Up x x:=⟨rfl,Int.le_refl _,Int.le_refl _,Int.le_refl _⟩
end Go.Px
end
section
namespace Go.Px
set_option maxRecDepth 100000
def AA2 (L:Rows) (k:Nat):Rows:=List.drop (Ek L k) (List.take (Ek L (k+1)) L)
end Go.Px
end
section
namespace Go.Px
set_option maxRecDepth 100000
theorem kA {L:Rows}:∀ k i m out,RP L (k+1) i m out=cond ((evR L (i+k)).kind==4) (RP L k i m out++[I8 ((i+k:Nat):Int) (stM L k i m) (Aq ((i+k:Nat):Int) (stM L k i m) (evR L (i+k))).1 (evR L (i+k)).ball]) (RP L k i m out)
 | 0,i,m,out=>rfl
 | k+1,i,m,out=>by
  have ih:=kA (L:=L) k (i+1) (Aq i m (evR L i)).1 (cond ((evR L i).kind==4) (out++[I8 i m (Aq i m (evR L i)).1 (evR L i).ball]) out)
  rw [show i+1+k=i+(k+1) by omega] at ih
  exact ih
def aQ (x:List PV):List PV:=[.int (pvI (AA x 0)),.int (pvI (AA x 1)),.int (pvI (AA x 2)),.int (pvI (AA x 3)),.int (pvI (AA x 4)),.int (pvI (AA x 5)),.int (pvI (AA x 6)),.bool (pvB (AA x 7)),.int (pvI (AA x 8)),.int (pvI (AA x 9)),.int (pvI (AA x 10)),.int (pvI (AA x 11)),.int (pvI (AA x 12)),.bool (pvB (AA x 13)),.int (pvI (AA x 14)),.int (pvI (AA x 15)),.int (pvI (AA x 16)),.int (pvI (AA x 17)),.bool (pvB (AA x 18)),.int (pvI (AA x 19)),.int (pvI (AA x 20)),.int (pvI (AA x 21)),.int (pvI (AA x 22)),.int (pvI (AA x 23)),.int (pvI (AA x 24)),.int (pvI (AA x 25)),.bool (pvB (AA x 26)),.bool (pvB (AA x 27)),.bool (pvB (AA x 28)),.bool (pvB (AA x 29)),.int (pvI (AA x 30)),.int (pvI (AA x 31))]
def fil (k:Int):Rows→Rows
 | []=>[]
 | x::D=>cond (pvI (AA x 1)==k) (aQ x::fil k D) (fil k D)
theorem mW (k:Int):∀ A B,fil k (A++B)=fil k A++fil k B
 | [],B=>rfl
 | x::A,B=>by
  show cond _ (aQ x::fil k (A++B)) (fil k (A++B))=_
  rw [mW k A B]
  show _=cond (pvI (AA x 1)==k) (aQ x::fil k A) (fil k A)++fil k B
  cases pvI (AA x 1)==k<;>rfl
theorem vX (k:Int):∀ D,(fil k D).length≤D.length
 | []=>Nat.le_refl _
 | x::D=>by
  have:=vX k D
  show (cond (pvI (AA x 1)==k) (aQ x::fil k D) (fil k D)).length≤D.length+1
  cases pvI (AA x 1)==k
  ·exact Nat.le_succ_of_le this
  ·exact Nat.succ_le_succ this
theorem yp {D:Rows} {i:Nat} (h:i<D.length):D.take (i+1)=D.take i++[Ad D i]:=by
 rw [List.take_add_one,List.getElem?_eq_getElem h]
 unfold Ad
 rw [List.getD_eq_getElem?_getD,List.getElem?_eq_getElem h]
 rfl
theorem y3 {D:Rows} {i:Nat} {k:Int} (h:i<D.length):fil k (D.take (i+1))=cond (pvI (AK D i 1)==k) (fil k (D.take i)++[aQ (Ad D i)]) (fil k (D.take i)):=by
 rw [yp h,mW]
 show fil k (D.take i)++cond (pvI (AA (Ad D i) 1)==k) [aQ (Ad D i)] []=_
 show _=cond (pvI (AA (Ad D i) 1)==k) _ _
 cases pvI (AA (Ad D i) 1)==k
 ·exact List.append_nil _
 ·rfl
theorem q9 {N : Nat} {D : Rows} {k : Int} (hN : 2097152 < N) (hD : D.length ≤ 1000000) {F : (List Ac → Option (List PV)) → List PV → Option (List PV)}
    (h0:∀ self,F self [.rows (fil k D),.int (D.length:Int)]=some [.rows (fil k D)])
    (h1:∀ i self out,i<D.length→out.length≤i→F self [.rows out,.int (i:Int)]=self [.rows (cond (pvI (AK D i 1)==k) (out++[aQ (Ad D i)]) out),.int ((i+1:Nat):Int)]):ES F N [.rows [],.int 0]=some [.rows (fil k D)]:=by
  have:=Ce (F:=F) (len:=D.length) (fun i=>[.rows (fil k (D.take i)),.int (i:Int)]) [.rows (fil k D)] (fun self=>by
    show F self [.rows (fil k (D.take D.length)),_]=_
    rw [List.take_length]
    exact h0 self) (fun i self hi=>by
    have hl:=vX k (D.take i)
    rw [List.length_take] at hl
    rw [y3 hi]
    exact h1 i self _ hi (by omega)) N (by omega)
  exact this
set_option maxHeartbeats 2000000 in
theorem pP {N:Nat} {D:Rows} {k:Int} (hN:2097152<N) (hD:D.length≤1000000):MN N [.rows D,.int k]=some [.rows (fil k D)]:=by
 show MK (std (V0 N) N) (xOf _)=_
 simp only [MK,std,xOf,PXb]
 refine AL (q9 hN hD ?_ ?_) rfl
 ·intro self
  simp only [PXb,PXc,PXn,AB,Au]
 ·intro i self out hi ho
  have sm:iSm ((out.length+1:Nat):Int) 216=true:=DF (by omega) (by omega)
  simp only [PXb,PXc,PXn,AB,H2 (show i≤1099511627776 by omega),Ao hi,AP hi,Nat.reduceAdd,List.length_append,List.length_cons,List.length_nil,sm]
  cases pvI (AK D i 1)==k<;>rfl
theorem qi {d:Del} (h:(Cz d==0)=true):0≤d.sector∧d.sector≤8:=by
 unfold Cz at h
 cases h1:(iLt d.type 1||iLt 3 d.type||iLt 3 d.source||iLt 10 d.how || !btw d.sector 0 8) with
 | true=>rw [h1] at h;cases h
 | false =>
  simp only [btw,iLe,Bool.or_eq_false_iff,Bool.not_eq_false',Bool.and_eq_true,decide_eq_true_eq] at h1
  exact h1.2
structure BallF (r:Rul) (L:Rows) (a:Nat):Prop where
 one:1≤opn L a
 lnx:lnx (stM L a 0 (AW r).1).inns=opn L a - 1
 inn:IntKind.i64.wrap (((stM L a 0 (AW r).1).inns.length:Int) - 1)=((opn L a - 1:Nat):Int)
 ok:InnOk r (AY (stM L a 0 (AW r).1))
 rules:(stM L a 0 (AW r).1).rules=r
 ref:(Fr r (AY (stM L a 0 (AW r).1)) (evR L a).ball==0)=true
 over:(AY (stM L a 0 (AW r).1)).complete≤1000
theorem xY {r:Rul} {L:Rows} (hc:DC r L=0) {a:Nat} (ha:a<L.length) (hk:((evR L a).kind==4)=true):BallF r L a:=by
 obtain ⟨h1,h2,h3,h4,h5⟩:=V1 hc
 obtain ⟨li,so,_⟩:=T1 h1 h4 a (by omega)
 obtain ⟨_,_,hi⟩:=T1 h1 h4 L.length (Nat.le_refl _)
 have e:=beq_iff_eq.1 hk
 have one:=(hi a ha).2.play (by rw [e];rfl) (by rw [e];rfl) (by rw [e];rfl) (by rw [e];rfl)
 have a0:=YS L.length 0 _ h4 a ha
 rw [Nat.zero_add] at a0
 have q:=(X6 a0).1
 rw [q] at a0
 obtain ⟨g1,g2,g3,g4⟩:=Zg a0 hk
 have sl:=so.len
 have ll:=li.len
 have lx:Px.lnx (stM L a 0 (AW r).1).inns=opn L a - 1:=by
  unfold Px.lnx
  rw [ll,Bs (by omega) (by omega)]
  omega
 have rl:=so.rules
 obtain ⟨hv,he,hn,hw,hp,hs⟩:=Yy g3
 rw [rl] at hv hp
 have ok:=NO.1 hv
 have hpb:BJ r (AY (stM L a 0 (AW r).1)) (evR L a)=IU r (AY (stM L a 0 (AW r).1)) (evR L a).ball:=by unfold BJ;rw [e];rfl
 rw [hpb] at hp
 have cl:=yP h1 h4 a (by omega)
 have at1:=cl.at' (opn L a - 1) (by omega)
 have kx:sco (Fp (stM L a 0 (AW r).1)).xs (opn L a - 1)=Bg r.balls (AY (stM L a 0 (AW r).1)):=by
  unfold Fp AY
  rw [rl,lx]
  exact T0 _ _ (by omega)
 rw [kx] at at1
 have bl:CR r.balls (AY (stM L a 0 (AW r).1)).complete (AY (stM L a 0 (AW r).1)).inover=smi L (xE r) (opn L a - 1) a:=congrArg Sco.balls at1
 have be:=(sP ok).1
 have cb:=zn (L:=L) (f:=xE r) (c:=1) (fun e=>by unfold xE;cases (Kg r e).counts<;>simp) (opn L a - 1) a
 have q4:=(Dn ok.code).balls
 have io:=ok.io
 have co:=ok.complete
 unfold Bl at co
 have m1:=Int.mul_le_mul_of_nonneg_left q4.1 co.1
 refine ⟨one,lx,by rw [ll,Bs (by omega) (by omega)];omega,ok,rl,(nC hp).1,?_⟩
 rw [bl] at be
 omega
def SJ (r:Rul) (L:Rows) (k:Nat):Nat→Rows
 | 0=>[]
 | n+1=>cond ((evR L n).kind==4&&Nat.beq (opn L (n+1)) (k+1)) (SJ r L k n++[I8 (n:Int) (stM L n 0 (AW r).1) (stM L (n+1) 0 (AW r).1) (evR L n).ball]) (SJ r L k n)
theorem vA {r:Rul} {L:Rows} (hc:DC r L=0) (k:Nat):∀ n,n≤L.length→fil (k:Int) (RP L n 0 (AW r).1 [])=SJ r L k n
 | 0,_=>rfl
 | n+1,hn=>by
  have ih:=vA hc k n (by omega)
  rw [kA,Nat.zero_add]
  have si:=ZC (L:=L) n 0 (AW r).1
  rw [Nat.zero_add] at si
  show _=cond ((evR L n).kind==4&&Nat.beq (opn L (n+1)) (k+1)) _ (SJ r L k n)
  cases hk:(evR L n).kind==4 with
  | false=>exact ih
  | true =>
   have bf:=xY hc (show n<L.length by omega) hk
   have on:opn L (n+1)=opn L n:=tV (by rw [beq_iff_eq.1 hk];rfl)
   rw [cond_true,mW,ih,← si,on,Bool.true_and]
   show SJ r L k n++cond (IntKind.i64.wrap (((stM L n 0 (AW r).1).inns.length:Int) - 1)==(k:Int)) [_] []=_
   rw [bf.inn]
   have one:=bf.one
   by_cases e:opn L n=k+1
   ·rw [e,fO,show ((k+1 - 1:Nat):Int)=(k:Int) by omega,beq_self_eq_true]
    rfl
   ·rw [lQ e,beq_false_of_ne (by omega)]
    exact List.append_nil _
theorem w6 {r:Rul} {L:Rows} (hc:DC r L=0) (k:Nat):fil (k:Int) (CB r L)=SJ r L k L.length:=by
 obtain ⟨h1,h2,h3,h4,h5⟩:=V1 hc
 have:CB r L=RP L L.length 0 (AW r).1 []:=by
  unfold CB
  rw [h1]
  obtain ⟨j,j1,j2,j3,j4⟩:=ZH L L.length 0 (AW r).1
  show Mg L L.length 0 (AW r).1 []=_
  rw [j3 []]
  rcases j4 with ⟨j5,_⟩ | ⟨j5,j6,j7⟩
  ·rw [j5]
  ·have hh:=YS L.length 0 _ h4 j j5
   rw [hh] at j6
   cases j6
 rw [this]
 exact vA hc k L.length (Nat.le_refl _)
structure RowF (r:Rul) (x:List PV):Prop where
 over:∃ o:Nat,o≤1000∧pvI (AA x 2)=(o:Int)
 sector:∃ s:Nat,s≤8∧pvI (AA x 19)=(s:Int)
 striker:1≤pvI (AA x 5)∧pvI (AA x 5)≤r.side
 cre:∃ d,pvI (AA x 20)=(AE r d).batter∧pvI (AA x 21)=(AE r d).wides∧pvI (AA x 22)=(AE r d).noballs∧pvI (AA x 23)=(AE r d).byes∧pvI (AA x 24)=(AE r d).legbyes∧pvI (AA x 25)=(AE r d).bowler
theorem ABa {r:Rul} {L:Rows} (hc:DC r L=0) {a:Nat} (ha:a<L.length) (hk:((evR L a).kind==4)=true) (t:Mat):RowF r (I8 (a:Int) (stM L a 0 (AW r).1) t (evR L a).ball):=by
 have bf:=xY hc ha hk
 obtain ⟨q1,q2,q3,q4,q5,q6⟩:=cY bf.ref
 have ls:=qi q4
 have co:=bf.ok.complete
 unfold Bl at co
 have st:=bf.ok.st
 have over:=bf.over
 have beg:Bp (AY (stM L a 0 (AW r).1)).batters=true:=by
  obtain ⟨h1,h2,h3,h4,h5⟩:=V1 hc
  have a0:=YS L.length 0 _ h4 a ha
  rw [Nat.zero_add] at a0
  have q:=(X6 a0).1
  rw [q] at a0
  obtain ⟨g1,g2,g3,g4⟩:=Zg a0 hk
  exact jd (Yy g3).2.2.2.1 (by rw [beq_iff_eq.1 hk];rfl)
 have z1:=(ij q1 beg).1
 rw [beq_eq_false_iff_ne] at z1
 refine ⟨⟨(AY (stM L a 0 (AW r).1)).complete.toNat,by omega,?_⟩,⟨(evR L a).ball.sector.toNat,by omega,?_⟩,?_,(evR L a).ball,?_⟩
 ·show (AY (stM L a 0 (AW r).1)).complete=_
  omega
 ·show (evR L a).ball.sector=_
  omega
 ·show 1≤(AY (stM L a 0 (AW r).1)).striker∧(AY (stM L a 0 (AW r).1)).striker≤r.side
  omega
 ·have rl:=bf.rules
  show (AE (stM L a 0 (AW r).1).rules _).batter=_∧(AE (stM L a 0 (AW r).1).rules _).wides=_∧(AE (stM L a 0 (AW r).1).rules _).noballs=_∧(AE (stM L a 0 (AW r).1).rules _).byes=_∧(AE (stM L a 0 (AW r).1).rules _).legbyes=_∧(AE (stM L a 0 (AW r).1).rules _).bowler=_
  rw [rl]
  exact ⟨rfl,rfl,rfl,rfl,rfl,rfl⟩
theorem zz {r:Rul} {L:Rows} (hc:DC r L=0) (k:Nat):∀ n,n≤L.length→(SJ r L k n).length≤n∧∀ x,x∈SJ r L k n→RowF r x
 | 0,_=>⟨Nat.le_refl _,fun x hx=>absurd hx (List.not_mem_nil)⟩
 | n+1,hn=>by
  obtain ⟨i1,i2⟩:=zz hc k n (by omega)
  show (cond ((evR L n).kind==4&&Nat.beq (opn L (n+1)) (k+1)) _ (SJ r L k n)).length≤n+1∧∀ x,x∈cond ((evR L n).kind==4&&Nat.beq (opn L (n+1)) (k+1)) _ (SJ r L k n)→RowF r x
  cases hk:(evR L n).kind==4 with
  | false=>exact ⟨Nat.le_succ_of_le i1,i2⟩
  | true =>
   cases Nat.beq (opn L (n+1)) (k+1) with
   | false=>exact ⟨Nat.le_succ_of_le i1,i2⟩
   | true =>
    refine ⟨?_,fun x hx=>?_⟩
    ·show (SJ r L k n++[_]).length≤n+1
     rw [List.length_append]
     exact Nat.succ_le_succ i1
    ·rcases List.mem_append.1 hx with hx | hx
     ·exact i2 x hx
     ·rw [List.mem_singleton.1 hx]
      exact ABa hc (by omega) hk _
end Go.Px
end
section
namespace Go.Px
set_option maxRecDepth 100000
def BD (r:Rul) (L:Rows) (k:Int):Rows×Int:=cond (!(DC r L==0)) ([],DC r L) (cond (iLt k 0||iLe (opn L L.length:Int) k) ([],2) (fil k (CB r L),0))
theorem Zz {r:Rul} {L:Rows} {k:Int} (h:((BD r L k).2==0)=true):DC r L=0∧0≤k∧k<(opn L L.length:Int)∧(BD r L k).1=SJ r L k.toNat L.length∧(BD r L k).2=0∧(BD r L k).1.length≤4000∧∀ i,i<(BD r L k).1.length→RowF r (Ad (BD r L k).1 i):=by
 unfold BD at h ⊢
 cases hc:DC r L==0 with
 | false=>rw [hc] at h;exact absurd (show (DC r L==0)=true from h) (by rw [hc];decide)
 | true =>
  have c0:=beq_iff_eq.1 hc
  cases hb:iLt k 0||iLe (opn L L.length:Int) k with
  | true=>rw [hc,hb] at h;cases h
  | false =>
   simp only [Bool.or_eq_false_iff,iLt,iLe,decide_eq_false_iff_not] at hb
   obtain ⟨K,rfl⟩:∃ K:Nat,k=(K:Int):=⟨k.toNat,by omega⟩
   have e:=w6 c0 K
   obtain ⟨b1,b2⟩:=zz c0 K L.length (Nat.le_refl _)
   have l4:=(V1 c0).2.2.1
   refine ⟨c0,by omega,by omega,?_,rfl,?_,fun i hi=>?_⟩
   ·exact e
   ·show (fil (K:Int) (CB r L)).length≤4000
    rw [e]
    omega
   ·change i<(fil (K:Int) (CB r L)).length at hi
    show RowF r (Ad (fil (K:Int) (CB r L)) i)
    rw [e] at hi ⊢
    refine b2 _ ?_
    unfold Ad
    rw [List.getD_eq_getElem?_getD,List.getElem?_eq_getElem hi]
    exact List.getElem_mem hi
set_option maxHeartbeats 4000000 in
theorem aa {N:Nat} {r1 r2 r3 r4 r5 r6 r7 r9 r10 r11 r12:Int} {r8:Bool} {r0:ByteArray} {r13:Rows} {L:Rows} {k:Int} (hN:2097152<N) (hs:r0.size≤1048576) (h13:r13.length≤1048576) (hL:L.length≤1000000):C6 N [.str r0,.int r1,.int r2,.int r3,.int r4,.int r5,.int r6,.int r7,.bool r8,.int r9,.int r10,.int r11,.int r12,.rows r13,.rows L,.int k]=some [.rows (BD (⟨r0,r1,r2,r3,r4,r5,r6,r7,r8,r9,r10,r11,r12,r13⟩:Rul) L k).1,.int (BD (⟨r0,r1,r2,r3,r4,r5,r6,r7,r8,r9,r10,r11,r12,r13⟩:Rul) L k).2]:=by
 show Ij (std (Co N) N) (xOf _)=_
 generalize hres:(some [.rows (BD (⟨r0,r1,r2,r3,r4,r5,r6,r7,r8,r9,r10,r11,r12,r13⟩:Rul) L k).1,.int (BD (⟨r0,r1,r2,r3,r4,r5,r6,r7,r8,r9,r10,r11,r12,r13⟩:Rul) L k).2]:Option (List PV))=RR
 have hl:L.length≤1048576:=by omega
 simp only [Ij,Vb,SH,XT,std,xOf,PXb,tn hN hs h13 hl,nW hN hl,kj hN hs h13 hl,Yc,PXc]
 subst hres;simp only [BD]
 cases hc:DC (⟨r0,r1,r2,r3,r4,r5,r6,r7,r8,r9,r10,r11,r12,r13⟩:Rul) L==0 with
 | false=>rfl
 | true =>
  have pl:=mF (⟨r0,r1,r2,r3,r4,r5,r6,r7,r8,r9,r10,r11,r12,r13⟩:Rul) L
  cases h0:iLt k 0 with
  | true=>rfl
  | false =>
   simp only [PXb,Bool.not_true,Bool.not_false,PXp,X9]
   cases h1:iLe (opn L L.length:Int) k with
   | true=>rfl
   | false =>
    simp only [PXb]
    generalize CB (⟨r0,r1,r2,r3,r4,r5,r6,r7,r8,r9,r10,r11,r12,r13⟩:Rul) L=D at *
    refine AL (q9 hN (show D.length≤1000000 by omega) ?_ ?_) rfl
    ·intro self
     simp only [PXb,PXc,PXn,AB,Au]
    ·intro i self out hi ho
     have sm:iSm ((out.length+1:Nat):Int) 216=true:=DF (by omega) (by omega)
     simp only [PXb,PXc,PXn,AB,H2 (show i≤1099511627776 by omega),Ao hi,AP hi,Nat.reduceAdd,List.length_append,List.length_cons,List.length_nil,sm]
     cases pvI (AK D i 1)==k<;>rfl
set_option maxHeartbeats 4000000 in
theorem y9 {N:Nat} {r1 r2 r3 r4 r5 r6 r7 r9 r10 r11 r12:Int} {r8:Bool} {r0:ByteArray} {r13:Rows} {L:Rows} {k:Int} (hN:2097152<N) (hs:r0.size≤1048576) (h13:r13.length≤1048576) (hL:L.length≤1000000):Uv N [.str r0,.int r1,.int r2,.int r3,.int r4,.int r5,.int r6,.int r7,.bool r8,.int r9,.int r10,.int r11,.int r12,.rows r13,.rows L,.int k]=some [.rows (cond ((BD (⟨r0,r1,r2,r3,r4,r5,r6,r7,r8,r9,r10,r11,r12,r13⟩:Rul) L k).2==0) (AA2 L k.toNat) []),.rows (BD (⟨r0,r1,r2,r3,r4,r5,r6,r7,r8,r9,r10,r11,r12,r13⟩:Rul) L k).1,.int (BD (⟨r0,r1,r2,r3,r4,r5,r6,r7,r8,r9,r10,r11,r12,r13⟩:Rul) L k).2]:=by
 show Ui (std (Ep N) N) (xOf _)=_
 generalize hres:(some [.rows (cond ((BD (⟨r0,r1,r2,r3,r4,r5,r6,r7,r8,r9,r10,r11,r12,r13⟩:Rul) L k).2==0) (AA2 L k.toNat) []),.rows (BD (⟨r0,r1,r2,r3,r4,r5,r6,r7,r8,r9,r10,r11,r12,r13⟩:Rul) L k).1,.int (BD (⟨r0,r1,r2,r3,r4,r5,r6,r7,r8,r9,r10,r11,r12,r13⟩:Rul) L k).2]:Option (List PV))=RR
 have hl:L.length≤1048576:=by omega
 simp only [Ui,eX,cJ,f6,PT,std,xOf,PXb,uf hN hs h13 hl,ro hN hl,vd hN hs h13 hl,Yc,PXc]
 subst hres;simp only [BD]
 cases hc:DC (⟨r0,r1,r2,r3,r4,r5,r6,r7,r8,r9,r10,r11,r12,r13⟩:Rul) L==0 with
 | false=>simp only [PXb,Bool.not_false,hc]
 | true =>
  have pl:=mF (⟨r0,r1,r2,r3,r4,r5,r6,r7,r8,r9,r10,r11,r12,r13⟩:Rul) L
  simp only [PXb,Bool.not_true,PXp,X9]
  cases hb:iLt k 0||iLe (opn L L.length:Int) k with
  | true=>rfl
  | false =>
   simp only [Bool.or_eq_false_iff,iLt,iLe,decide_eq_false_iff_not] at hb
   obtain ⟨K,rfl⟩:∃ K:Nat,k=(K:Int):=⟨k.toNat,by omega⟩
   have hk:K<opn L L.length:=by omega
   have sg:=seg hl hk
   have sgl:=sg.lt
   have sge:=sg.le
   have rg:iRg (Ek L K:Int) (Ek L (K+1):Int) (L.length:Int)=true:=by simp only [iRg,decide_eq_true_eq];omega
   simp only [PXb,AP hk,sg.x0,sg.x1,rg,Int.toNat_natCast,PT,pP hN (show (CB (⟨r0,r1,r2,r3,r4,r5,r6,r7,r8,r9,r10,r11,r12,r13⟩:Rul) L).length≤1000000 by omega),beq_self_eq_true]
   rfl
def whX (x:List PV) (p:Int) (xs:List Int):List Int:=cond (p==0||pvI (AA x 5)==p) (xs.set (pvI (AA x 19)).toNat (IntKind.i64.wrap (xs.getD (pvI (AA x 19)).toNat 0+pvI (AA x 20)))) xs
def whN (X:Rows) (p:Int):Nat→List Int
 | 0=>List.replicate 9 0
 | i+1=>whX (Ad X i) p (whN X p i)
theorem mr (X:Rows) (p:Int):∀ i,(whN X p i).length=9
 | 0=>List.length_replicate
 | i+1=>by
  show (cond _ _ (whN X p i)).length=9
  cases (p==0||pvI (AA (Ad X i) 5)==p)
  ·exact mr X p i
  ·exact List.length_set.trans (mr X p i)
def RY (r:Rul) (L:Rows) (k p:Int):List Int×Int:=cond (!((BD r L k).2==0)) ([],(BD r L k).2) (cond (iLt p 0||iLt r.side p) ([],2) (whN (BD r L k).1 p (BD r L k).1.length,0))
theorem AAO {N : Nat} {r : Rul} {X : Rows} {p : Int} (hN : 2097152 < N) (hX : X.length ≤ 4000) (rf : ∀ i, i < X.length → RowF r (Ad X i)) {F : (List Ac → Option (List PV)) → List PV → Option (List PV)}
    (h0:∀ xs self,F self [.rows (A0 xs),.int (X.length:Int)]=some [.rows (A0 xs)])
    (h1:∀ (i s:Nat) self (xs:List Int),i<X.length→s≤8→xs.length=9→pvI (AK X i 19)=(s:Int)→F self [.rows (A0 xs),.int (i:Int)]=self [.rows (A0 (cond (p==0||pvI (AK X i 5)==p) (xs.set s (IntKind.i64.wrap (xs.getD s 0+pvI (AK X i 20)))) xs)),.int ((i+1:Nat):Int)]):ES F N [.rows (A0 (List.replicate 9 0)),.int 0]=some [.rows (A0 (whN X p X.length))]:=by
  have:=Ce (F:=F) (len:=X.length) (fun i=>[.rows (A0 (whN X p i)),.int (i:Int)]) [.rows (A0 (whN X p X.length))] (fun self=>h0 _ self) (fun i self hi=>by
    obtain ⟨s,s1,s2⟩:=(rf i hi).sector
    have:=h1 i s self (whN X p i) hi s1 (mr X p i) s2
    have e:whN X p (i+1)=cond (p==0||pvI (AK X i 5)==p) ((whN X p i).set s (IntKind.i64.wrap ((whN X p i).getD s 0+pvI (AK X i 20)))) (whN X p i):=by
      show whX (Ad X i) p (whN X p i)=_
      unfold whX
      rw [s2]
      rfl
    rw [← e] at this
    exact this) N (by omega)
  exact this
set_option maxHeartbeats 4000000 in
theorem o6 {N:Nat} {r1 r2 r3 r4 r5 r6 r7 r9 r10 r11 r12:Int} {r8:Bool} {r0:ByteArray} {r13:Rows} {L:Rows} {k:Int} {p:Int} (hN:2097152<N) (hs:r0.size≤1048576) (h13:r13.length≤1048576) (hL:L.length≤1000000):Fu N [.str r0,.int r1,.int r2,.int r3,.int r4,.int r5,.int r6,.int r7,.bool r8,.int r9,.int r10,.int r11,.int r12,.rows r13,.rows L,.int k,.int p]=some [.rows (A0 (RY (⟨r0,r1,r2,r3,r4,r5,r6,r7,r8,r9,r10,r11,r12,r13⟩:Rul) L k p).1),.int (RY (⟨r0,r1,r2,r3,r4,r5,r6,r7,r8,r9,r10,r11,r12,r13⟩:Rul) L k p).2]:=by
 show Mf (std (OT N) N) (xOf _)=_
 generalize hres:(some [.rows (A0 (RY (⟨r0,r1,r2,r3,r4,r5,r6,r7,r8,r9,r10,r11,r12,r13⟩:Rul) L k p).1),.int (RY (⟨r0,r1,r2,r3,r4,r5,r6,r7,r8,r9,r10,r11,r12,r13⟩:Rul) L k p).2]:Option (List PV))=RR
 simp only [Mf,TN,std,xOf,PXb,aa hN hs h13 hL]
 subst hres;simp only [RY]
 cases hb:(BD (⟨r0,r1,r2,r3,r4,r5,r6,r7,r8,r9,r10,r11,r12,r13⟩:Rul) L k).2==0 with
 | false=>rfl
 | true =>
  obtain ⟨b1,b2,b3,b4,b5,b6,b7⟩:=Zz hb
  generalize (BD (⟨r0,r1,r2,r3,r4,r5,r6,r7,r8,r9,r10,r11,r12,r13⟩:Rul) L k).1=X at *
  have s9:iSm 9 8=true:=by decide
  simp only [PXb,Bool.not_true]
  cases iLt p 0||iLt r1 p with
  | true=>rfl
  | false =>
   have rz:List.replicate (Int.toNat 9) [PV.int 0]=A0 (List.replicate 9 0):=rfl
   simp only [PXb,s9,rz]
   refine AL (AAO hN b6 b7 ?_ ?_) rfl
   ·intro xs self
    simp only [PXb,PXc,PXn,AB,Au]
   ·intro i s self xs hi h8 hx he
    have i9:iIn (s:Int) (xs.length:Int)=true:=AP (by omega)
    simp only [PXb,PXc,PXn,AB,H2 (show i≤1099511627776 by omega),Ao hi,AP hi,he,EP,i9,Int.toNat_natCast,A6,rP,Zv]
    cases (p==0||atI X i 5==p)<;>rfl
def ST (xs:List Int) (n:Nat):List Int:=xs++List.replicate (n - xs.length) 0
def zX (x:List PV):Cre:=⟨pvI (AA x 20),pvI (AA x 21),pvI (AA x 22),pvI (AA x 23),pvI (AA x 24),pvI (AA x 25),pvB (AA x 26),pvB (AA x 27),pvB (AA x 28),pvB (AA x 29)⟩
def ovX (x:List PV) (xs:List Int):List Int:=(ST xs ((pvI (AA x 2)).toNat+1)).set (pvI (AA x 2)).toNat (IntKind.i64.wrap ((ST xs ((pvI (AA x 2)).toNat+1)).getD (pvI (AA x 2)).toNat 0+DM (zX x)))
def ovN (X:Rows):Nat→List Int
 | 0=>[]
 | i+1=>ovX (Ad X i) (ovN X i)
theorem nV (xs:List Int) (n:Nat):(ST xs n).length=max xs.length n:=by
 unfold ST
 rw [List.length_append,List.length_replicate]
 omega
theorem mV {r:Rul} {X:Rows} (rf:∀ i,i<X.length→RowF r (Ad X i)):∀ i,i≤X.length→(ovN X i).length≤1001
 | 0,_=>Nat.zero_le _
 | i+1,hi=>by
  have ih:=mV rf i (by omega)
  obtain ⟨o,o1,o2⟩:=(rf i (by omega)).over
  show (ovX (Ad X i) (ovN X i)).length≤1001
  unfold ovX
  rw [List.length_set,nV,o2]
  omega
theorem tF {N : Nat} {xs : List Int} {o : Nat} (hN : 2097152 < N) (ho : o ≤ 1000) (hx : xs.length ≤ 1001) {F : (List Ac → Option (List PV)) → List PV → Option (List PV)}
    (h:∀ (ys:List Int) self,ys.length≤1001→F self [.rows (A0 ys)]=cond (iLe (ys.length:Int) (o:Int)) (self [.rows (A0 (ys++[0]))]) (some [.rows (A0 ys)])):ES F N [.rows (A0 xs)]=some [.rows (A0 (ST xs (o+1)))]:=by
  have:=Ce (F:=F) (len:=o+1 - xs.length) (fun j=>[.rows (A0 (xs++List.replicate j 0))]) [.rows (A0 (ST xs (o+1)))] (fun self=>by
    have:=h (xs++List.replicate (o+1 - xs.length) 0) self (by rw [List.length_append,List.length_replicate];omega)
    rw [List.length_append,List.length_replicate,show iLe ((xs.length+(o+1 - xs.length):Nat):Int) (o:Int)=false by simp only [iLe,decide_eq_false_iff_not];omega] at this
    exact this) (fun j self hj=>by
    have:=h (xs++List.replicate j 0) self (by rw [List.length_append,List.length_replicate];omega)
    rw [List.length_append,List.length_replicate,show iLe ((xs.length+j:Nat):Int) (o:Int)=true by simp only [iLe,decide_eq_true_eq];omega,List.append_assoc,← List.replicate_succ'] at this
    exact this) N (by omega)
  have e:xs++List.replicate 0 (0:Int)=xs:=List.append_nil _
  rw [e] at this
  exact this
def BS (r:Rul) (L:Rows) (k:Int):List Int×Int:=cond (!((BD r L k).2==0)) ([],(BD r L k).2) (ovN (BD r L k).1 (BD r L k).1.length,0)
theorem vH {N : Nat} {r : Rul} {X : Rows} (hN : 2097152 < N) (hX : X.length ≤ 4000) (rf : ∀ i, i < X.length → RowF r (Ad X i)) {F : (List Ac → Option (List PV)) → List PV → Option (List PV)}
    (h0:∀ xs self,F self [.rows (A0 xs),.int (X.length:Int)]=some [.rows (A0 xs)])
    (h1:∀ (i o:Nat) self (xs:List Int),i<X.length→o≤1000→xs.length≤1001→pvI (AK X i 2)=(o:Int)→F self [.rows (A0 xs),.int (i:Int)]=self [.rows (A0 ((ST xs (o+1)).set o (IntKind.i64.wrap ((ST xs (o+1)).getD o 0+DM (zX (Ad X i)))))),.int ((i+1:Nat):Int)]):ES F N [.rows [],.int 0]=some [.rows (A0 (ovN X X.length))]:=by
  have:=Ce (F:=F) (len:=X.length) (fun i=>[.rows (A0 (ovN X i)),.int (i:Int)]) [.rows (A0 (ovN X X.length))] (fun self=>h0 _ self) (fun i self hi=>by
    obtain ⟨o,o1,o2⟩:=(rf i hi).over
    have:=h1 i o self (ovN X i) hi o1 (mV rf i (by omega)) o2
    have e:ovN X (i+1)=(ST (ovN X i) (o+1)).set o (IntKind.i64.wrap ((ST (ovN X i) (o+1)).getD o 0+DM (zX (Ad X i)))):=by
      show ovX (Ad X i) (ovN X i)=_
      unfold ovX
      rw [o2]
      rfl
    rw [← e] at this
    exact this) N (by omega)
  exact this
theorem zl (ys:List Int) (v:Int):A0 ys++[[.int v]]=A0 (ys++[v]):=(List.map_append (f:=fun x:Int=>[PV.int x]) (l₁:=ys) (l₂:=[v])).symm
set_option maxHeartbeats 4000000 in
theorem QL {N:Nat} {r1 r2 r3 r4 r5 r6 r7 r9 r10 r11 r12:Int} {r8:Bool} {r0:ByteArray} {r13:Rows} {L:Rows} {k:Int} (hN:2097152<N) (hs:r0.size≤1048576) (h13:r13.length≤1048576) (hL:L.length≤1000000):Bq N [.str r0,.int r1,.int r2,.int r3,.int r4,.int r5,.int r6,.int r7,.bool r8,.int r9,.int r10,.int r11,.int r12,.rows r13,.rows L,.int k]=some [.rows (A0 (BS (⟨r0,r1,r2,r3,r4,r5,r6,r7,r8,r9,r10,r11,r12,r13⟩:Rul) L k).1),.int (BS (⟨r0,r1,r2,r3,r4,r5,r6,r7,r8,r9,r10,r11,r12,r13⟩:Rul) L k).2]:=by
 show LI (std (IL N) N) (xOf _)=_
 generalize hres:(some [.rows (A0 (BS (⟨r0,r1,r2,r3,r4,r5,r6,r7,r8,r9,r10,r11,r12,r13⟩:Rul) L k).1),.int (BS (⟨r0,r1,r2,r3,r4,r5,r6,r7,r8,r9,r10,r11,r12,r13⟩:Rul) L k).2]:Option (List PV))=RR
 simp only [LI,Sa,Gr,std,xOf,PXb,aa hN hs h13 hL]
 subst hres;simp only [BS]
 cases hb:(BD (⟨r0,r1,r2,r3,r4,r5,r6,r7,r8,r9,r10,r11,r12,r13⟩:Rul) L k).2==0 with
 | false=>rfl
 | true =>
  obtain ⟨b1,b2,b3,b4,b5,b6,b7⟩:=Zz hb
  generalize (BD (⟨r0,r1,r2,r3,r4,r5,r6,r7,r8,r9,r10,r11,r12,r13⟩:Rul) L k).1=X at *
  simp only [PXb,Bool.not_true]
  refine AL (vH hN b6 b7 ?_ ?_) rfl
  ·intro xs self
   simp only [PXb,PXc,PXn,AB,Au]
  ·intro i o self xs hi h8 hx he
   simp only [PXb,PXc,PXn,AB,Ao hi,AP hi,he]
   refine AL (tF hN h8 hx ?_) ?_
   ·intro ys self hy
    have sm:iSm ((ys.length+1:Nat):Int) 8=true:=DF (by omega) (by omega)
    simp only [PXb,PXc,PXn,AB,EP,zl,List.length_append,List.length_cons,List.length_nil,sm,Nat.reduceAdd]
   ·have io:iIn (o:Int) ((ST xs (o+1)).length:Int)=true:=AP (by rw [nV];omega)
    simp only [PXb,PXc,PXn,AB,PXc,H2 (show i≤1099511627776 by omega),EP,io,Gr,UM,Nat.reduceAdd,Int.toNat_natCast,A6,rP,Zv]
    rfl
set_option maxHeartbeats 4000000 in
theorem ek {N:Nat} {r1 r2 r3 r4 r5 r6 r7 r9 r10 r11 r12:Int} {r8:Bool} {r0:ByteArray} {r13:Rows} {L:Rows} {k:Int} (hN:2097152<N) (hs:r0.size≤1048576) (h13:r13.length≤1048576) (hL:L.length≤1000000):D5 N [.str r0,.int r1,.int r2,.int r3,.int r4,.int r5,.int r6,.int r7,.bool r8,.int r9,.int r10,.int r11,.int r12,.rows r13,.rows L,.int k]=some [.rows (A0 (BS (⟨r0,r1,r2,r3,r4,r5,r6,r7,r8,r9,r10,r11,r12,r13⟩:Rul) L k).1),.int (BS (⟨r0,r1,r2,r3,r4,r5,r6,r7,r8,r9,r10,r11,r12,r13⟩:Rul) L k).2]:=by
 show Kk (std (Dq N) N) (xOf _)=_
 generalize hres:(some [.rows (A0 (BS (⟨r0,r1,r2,r3,r4,r5,r6,r7,r8,r9,r10,r11,r12,r13⟩:Rul) L k).1),.int (BS (⟨r0,r1,r2,r3,r4,r5,r6,r7,r8,r9,r10,r11,r12,r13⟩:Rul) L k).2]:Option (List PV))=RR
 simp only [Kk,cD,L6,std,xOf,PXb,y9 hN hs h13 hL]
 subst hres;simp only [BS]
 cases hb:(BD (⟨r0,r1,r2,r3,r4,r5,r6,r7,r8,r9,r10,r11,r12,r13⟩:Rul) L k).2==0 with
 | false=>rfl
 | true =>
  obtain ⟨b1,b2,b3,b4,b5,b6,b7⟩:=Zz hb
  generalize (BD (⟨r0,r1,r2,r3,r4,r5,r6,r7,r8,r9,r10,r11,r12,r13⟩:Rul) L k).1=X at *
  simp only [PXb,Bool.not_true]
  refine AL (vH hN b6 b7 ?_ ?_) rfl
  ·intro xs self
   simp only [PXb,PXc,PXn,AB,Au]
  ·intro i o self xs hi h8 hx he
   simp only [PXb,PXc,PXn,AB,Ao hi,AP hi,he]
   refine AL (tF hN h8 hx ?_) ?_
   ·intro ys self hy
    have sm:iSm ((ys.length+1:Nat):Int) 8=true:=DF (by omega) (by omega)
    simp only [PXb,PXc,PXn,AB,EP,zl,List.length_append,List.length_cons,List.length_nil,sm,Nat.reduceAdd]
   ·have io:iIn (o:Int) ((ST xs (o+1)).length:Int)=true:=AP (by rw [nV];omega)
    simp only [PXb,PXc,PXn,AB,PXc,H2 (show i≤1099511627776 by omega),EP,io,L6,gw,Nat.reduceAdd,Int.toNat_natCast,A6,rP,Zv]
    rfl
def woN (xs:List Int):Nat→List Int
 | 0=>xs
 | j+1=>(woN xs j).set (j+1) (IntKind.i64.wrap ((woN xs j).getD (j+1) 0+(woN xs j).getD j 0))
theorem fL (xs:List Int):∀ j,(woN xs j).length=xs.length
 | 0=>rfl
 | j+1=>by
  show ((woN xs j).set _ _).length=_
  rw [List.length_set,fL xs j]
def TT (xs:List Int):List Int:=woN xs (xs.length - 1)
theorem vY {N : Nat} {xs : List Int} (hN : 2097152 < N) (hx : xs.length ≤ 1001) {F : (List Ac → Option (List PV)) → List PV → Option (List PV)}
    (h:∀ (ys:List Int) (j:Nat) self,ys.length=xs.length→j≤1001→F self [.rows (A0 ys),.int ((j:Int)+1)]=cond (iLt ((j:Int)+1) (xs.length:Int)) (self [.rows (A0 (ys.set (j+1) (IntKind.i64.wrap (ys.getD (j+1) 0+ys.getD j 0)))),.int (((j+1:Nat):Int)+1)]) (some [.rows (A0 ys)])):ES F N [.rows (A0 xs),.int 1]=some [.rows (A0 (TT xs))]:=by
  have:=Ce (F:=F) (len:=xs.length - 1) (fun j=>[.rows (A0 (woN xs j)),.int ((j:Int)+1)]) [.rows (A0 (TT xs))] (fun self=>by
    have:=h (woN xs (xs.length - 1)) (xs.length - 1) self (fL xs _) (by omega)
    rw [show iLt (((xs.length - 1:Nat):Int)+1) (xs.length:Int)=false by simp only [iLt,decide_eq_false_iff_not];omega] at this
    exact this) (fun j self hj=>by
    have:=h (woN xs j) j self (fL xs _) (by omega)
    rw [show iLt ((j:Int)+1) (xs.length:Int)=true by simp only [iLt,decide_eq_true_eq];omega] at this
    exact this) N (by omega)
  exact this
theorem im (r:Rul) (L:Rows) (k:Int):(BS r L k).1.length≤1001:=by
 unfold BS
 cases hb:(BD r L k).2==0 with
 | false=>exact Nat.zero_le _
 | true =>
  obtain ⟨b1,b2,b3,b4,b5,b6,b7⟩:=Zz hb
  exact mV b7 _ (Nat.le_refl _)
set_option maxHeartbeats 4000000 in
theorem qo {N:Nat} {r1 r2 r3 r4 r5 r6 r7 r9 r10 r11 r12:Int} {r8:Bool} {r0:ByteArray} {r13:Rows} {L:Rows} {k:Int} (hN:2097152<N) (hs:r0.size≤1048576) (h13:r13.length≤1048576) (hL:L.length≤1000000):OD N [.str r0,.int r1,.int r2,.int r3,.int r4,.int r5,.int r6,.int r7,.bool r8,.int r9,.int r10,.int r11,.int r12,.rows r13,.rows L,.int k]=some [.rows (A0 (TT (BS (⟨r0,r1,r2,r3,r4,r5,r6,r7,r8,r9,r10,r11,r12,r13⟩:Rul) L k).1)),.int (BS (⟨r0,r1,r2,r3,r4,r5,r6,r7,r8,r9,r10,r11,r12,r13⟩:Rul) L k).2]:=by
 show Oq (std (QP N) N) (xOf _)=_
 generalize hres:(some [.rows (A0 (TT (BS (⟨r0,r1,r2,r3,r4,r5,r6,r7,r8,r9,r10,r11,r12,r13⟩:Rul) L k).1)),.int (BS (⟨r0,r1,r2,r3,r4,r5,r6,r7,r8,r9,r10,r11,r12,r13⟩:Rul) L k).2]:Option (List PV))=RR
 simp only [Oq,TZ,std,xOf,PXb,QL hN hs h13 hL]
 subst hres
 have ol:=im (⟨r0,r1,r2,r3,r4,r5,r6,r7,r8,r9,r10,r11,r12,r13⟩:Rul) L k
 generalize BS (⟨r0,r1,r2,r3,r4,r5,r6,r7,r8,r9,r10,r11,r12,r13⟩:Rul) L k=o at *
 obtain ⟨xs,e⟩:=o
 refine AL (vY hN ol ?_) rfl
 intro ys j self hy hj
 have w1:IntKind.i64.wrap ((j:Int)+1 - 1)=(j:Int):=by rw [Bs (by omega) (by omega)];omega
 have w2:IntKind.i64.wrap ((j:Int)+1+1)=((j+1:Nat):Int)+1:=by rw [Bs (by omega) (by omega)];omega
 have t1:((j:Int)+1).toNat=j+1:=by omega
 simp only [PXb,PXc,PXn,AB,EP,hy,w1,w2,t1,Int.toNat_natCast,A6,rP,Zv]
 cases hl:iLt ((j:Int)+1) (xs.length:Int) with
 | false=>rfl
 | true =>
  simp only [iLt,decide_eq_true_eq] at hl
  have i1:iIn ((j:Int)+1) (xs.length:Int)=true:=by simp only [iIn,decide_eq_true_eq];omega
  have i2:iIn (j:Int) (xs.length:Int)=true:=by simp only [iIn,decide_eq_true_eq];omega
  simp only [PXb,i1,i2]
set_option maxHeartbeats 4000000 in
theorem vf {N:Nat} {r1 r2 r3 r4 r5 r6 r7 r9 r10 r11 r12:Int} {r8:Bool} {r0:ByteArray} {r13:Rows} {L:Rows} {k:Int} (hN:2097152<N) (hs:r0.size≤1048576) (h13:r13.length≤1048576) (hL:L.length≤1000000):Ti N [.str r0,.int r1,.int r2,.int r3,.int r4,.int r5,.int r6,.int r7,.bool r8,.int r9,.int r10,.int r11,.int r12,.rows r13,.rows L,.int k]=some [.rows (A0 (TT (BS (⟨r0,r1,r2,r3,r4,r5,r6,r7,r8,r9,r10,r11,r12,r13⟩:Rul) L k).1)),.int (BS (⟨r0,r1,r2,r3,r4,r5,r6,r7,r8,r9,r10,r11,r12,r13⟩:Rul) L k).2]:=by
 show TK (std (UD N) N) (xOf _)=_
 generalize hres:(some [.rows (A0 (TT (BS (⟨r0,r1,r2,r3,r4,r5,r6,r7,r8,r9,r10,r11,r12,r13⟩:Rul) L k).1)),.int (BS (⟨r0,r1,r2,r3,r4,r5,r6,r7,r8,r9,r10,r11,r12,r13⟩:Rul) L k).2]:Option (List PV))=RR
 simp only [TK,YA,std,xOf,PXb,ek hN hs h13 hL]
 subst hres
 have ol:=im (⟨r0,r1,r2,r3,r4,r5,r6,r7,r8,r9,r10,r11,r12,r13⟩:Rul) L k
 have e0:((BS (⟨r0,r1,r2,r3,r4,r5,r6,r7,r8,r9,r10,r11,r12,r13⟩:Rul) L k).2==0)=false→(BS (⟨r0,r1,r2,r3,r4,r5,r6,r7,r8,r9,r10,r11,r12,r13⟩:Rul) L k).1=[]:=fun h=>by
  unfold BS at h ⊢
  cases hb:(BD (⟨r0,r1,r2,r3,r4,r5,r6,r7,r8,r9,r10,r11,r12,r13⟩:Rul) L k).2==0 with
  | false=>rfl
  | true=>rw [hb] at h;cases h
 generalize BS (⟨r0,r1,r2,r3,r4,r5,r6,r7,r8,r9,r10,r11,r12,r13⟩:Rul) L k=o at *
 obtain ⟨xs,e⟩:=o
 simp only [PXb] at e0 ⊢
 cases he:e==0 with
 | false =>
  rw [e0 he]
  rfl
 | true =>
  rw [beq_iff_eq.1 he]
  simp only [PXb,Bool.not_true]
  refine AL (vY hN ol ?_) rfl
  intro ys j self hy hj
  have w1:IntKind.i64.wrap ((j:Int)+1 - 1)=(j:Int):=by rw [Bs (by omega) (by omega)];omega
  have w2:IntKind.i64.wrap ((j:Int)+1+1)=((j+1:Nat):Int)+1:=by rw [Bs (by omega) (by omega)];omega
  have t1:((j:Int)+1).toNat=j+1:=by omega
  simp only [PXb,PXc,PXn,AB,EP,hy,w1,w2,t1,Int.toNat_natCast,A6,rP,Zv]
  cases hl:iLt ((j:Int)+1) (xs.length:Int) with
  | false=>rfl
  | true =>
   simp only [iLt,decide_eq_true_eq] at hl
   have i1:iIn ((j:Int)+1) (xs.length:Int)=true:=by simp only [iIn,decide_eq_true_eq];omega
   have i2:iIn (j:Int) (xs.length:Int)=true:=by simp only [iIn,decide_eq_true_eq];omega
   simp only [PXb,i1,i2]
end Go.Px
end
section
namespace Go.Px
set_option maxRecDepth 100000
def zT (L:Rows):Rows×Int:=cond (!((L.length:Int)==9)) ([],1) (A0 [atI L 0 0,atI L 8 0,atI L 7 0,atI L 6 0,atI L 5 0,atI L 4 0,atI L 3 0,atI L 2 0,atI L 1 0],0)
def miN (X:Rows):Nat→List Int
 | 0=>[atI X 0 0,0,0,0,0,0,0,0,0]
 | j+1=>(miN X j).set (8 - j) (atI X (j+1) 0)
theorem mb (X:Rows):∀ j,(miN X j).length=9
 | 0=>rfl
 | j+1=>by
  show ((miN X j).set _ _).length=_
  rw [List.length_set,mb X j]
set_option maxHeartbeats 4000000 in
theorem nD {N:Nat} {L:Rows} (hN:2097152<N):HJ N [.rows L]=some [.rows (zT L).1,.int (zT L).2]:=by
 show LM (std (T7 N) N) (xOf _)=_
 simp only [LM,std,xOf,PXb]
 unfold zT
 cases h9:(L.length:Int)==9 with
 | false=>rfl
 | true =>
  have e9:(L.length:Int)=9:=beq_iff_eq.1 h9
  have s9:iSm 9 8=true:=by decide
  have i0:iIn 0 9=true:=by decide
  have n9:L.length=9:=by omega
  have c9:((9:Nat):Int)=9:=rfl
  have z0:(0:Int).toNat=0:=rfl
  have st:(List.replicate 9 (0:Int)).set 0 (pvI (AK L 0 0))=miN L 0:=rfl
  simp only [PXb,n9,c9,s9,i0,ABN,z0,Zv,st,EP,mb,List.length_replicate,Bool.not_true,beq_self_eq_true]
  refine AL (Ce (len:=8) (fun j=>[.rows (A0 (miN L j)),.int ((j+1:Nat):Int)]) [.rows (A0 (miN L 8))] ?_ ?_ N (by omega)) rfl
  ·intro self
   rfl
  ·intro j self hj
   have w1:IntKind.i64.wrap (((j+1:Nat):Int)+1)=((j+1+1:Nat):Int):=H2 (by omega)
   have w2:IntKind.i64.wrap (9 - ((j+1:Nat):Int))=((8 - j:Nat):Int):=by rw [Bs (by omega) (by omega)];omega
   have l1:iLe ((j+1:Nat):Int) 8=true:=by simp only [iLe,decide_eq_true_eq];omega
   have i1:iIn ((j+1:Nat):Int) 9=true:=by simp only [iIn,decide_eq_true_eq];omega
   have i2:iIn ((8 - j:Nat):Int) ((A0 (miN L j)).length:Int)=true:=by rw [EP,mb];simp only [iIn,decide_eq_true_eq];omega
   simp only [PXb,PXc,PXn,AB,w1,w2,l1,i1,i2,Int.toNat_natCast,Zv,miN,A6]
theorem AA5:BS Q8 Q6 1=([5],0):=by kernel_rfl
theorem AAB:RY Q8 Q6 1 2=([4,0,0,0,0,0,0,0,0],0):=by kernel_rfl
set_option maxHeartbeats 2000000 in
theorem uu:Ll 4194304 []=some [.bool true]:=by
 have hs:Q8.name.size≤1048576:=by decide
 have hl:Q6.length≤1000000:=by decide
 have hN:2097152<4194304:=by omega
 have k1:Bq 4194304 (Q8.ls++[.rows Q6,.int 1])=some [.rows (A0 (BS Q8 Q6 1).1),.int (BS Q8 Q6 1).2]:=QL hN hs (Nat.zero_le _) hl
 have k2:Fu 4194304 (Q8.ls++[.rows Q6,.int 1,.int 2])=some [.rows (A0 (RY Q8 Q6 1 2).1),.int (RY Q8 Q6 1 2).2]:=o6 hN hs (Nat.zero_le _) hl
 have k3:=nD (L:=[[.int 9],[.int 1],[.int 2],[.int 3],[.int 4],[.int 5],[.int 6],[.int 7],[.int 8]]) hN
 rw [AA5] at k1
 rw [AAB] at k2
 show RK (std (DZ 4194304) 4194304) (xOf [])=_
 simp only [RK,Vl,Qc,UY,Uh,Ya,cE,std,xOf,PXb,ABK,AAR]
 refine Ty k1 ?_
 refine Ty k2 ?_
 refine Ty k3 ?_
 refine Ty (D0 (L:=A0 [5]) (M:=[[.int 5]]) hN (by decide)) ?_
 refine Ty (D0 (L:=A0 [4,0,0,0,0,0,0,0,0]) (M:=[[.int 4],[.int 0],[.int 0],[.int 0],[.int 0],[.int 0],[.int 0],[.int 0],[.int 0]]) hN (by decide)) ?_
 refine Ty (D0 (L:=A0 [9,8,7,6,5,4,3,2,1]) (M:=[[.int 9],[.int 8],[.int 7],[.int 6],[.int 5],[.int 4],[.int 3],[.int 2],[.int 1]]) hN (by decide)) ?_
 rfl
set_option maxHeartbeats 4000000 in
theorem jf {N:Nat} {r1 r2 r3 r4 r5 r6 r7 r9 r10 r11 r12:Int} {r8:Bool} {r0:ByteArray} {r13:Rows} {L:Rows} {k:Int} (ha:Ll N []=some [.bool true]) (hN:2097152<N) (hs:r0.size≤1048576) (h13:r13.length≤1048576):FL N [.str r0,.int r1,.int r2,.int r3,.int r4,.int r5,.int r6,.int r7,.bool r8,.int r9,.int r10,.int r11,.int r12,.rows r13,.rows L,.int k]=some [.bool true]:=by
 show FH (std (A9 N) N) (xOf _)=_
 have l:(cut L 60).length≤1000000:=Nat.le_trans (AAm L 60) (show 60≤1000000 by omega)
 simp only [FH,SZ,VB,Lg,Pr,R9,Re,TP,std,xOf,PXb,ha,xw,QL hN hs h13 l,ek hN hs h13 l,qo hN hs h13 l,vf hN hs h13 l]
 have wl:=im (⟨r0,r1,r2,r3,r4,r5,r6,r7,r8,r9,r10,r11,r12,r13⟩:Rul) (cut L 60) k
 have w2:(TT (BS (⟨r0,r1,r2,r3,r4,r5,r6,r7,r8,r9,r10,r11,r12,r13⟩:Rul) (cut L 60) k).1).length≤1001:=by
  unfold TT
  rw [fL]
  exact wl
 simp only [D0 hN (show (A0 (BS (⟨r0,r1,r2,r3,r4,r5,r6,r7,r8,r9,r10,r11,r12,r13⟩:Rul) (cut L 60) k).1).length≤1048576 by rw [EP];omega),D0 hN (show (A0 (TT (BS (⟨r0,r1,r2,r3,r4,r5,r6,r7,r8,r9,r10,r11,r12,r13⟩:Rul) (cut L 60) k).1)).length≤1048576 by rw [EP];omega),PXb,PXc,PXn,PXm,Nat.reduceAdd,Int.reduceBEq,zf,beq_self_eq_true]
end Go.Px
end
