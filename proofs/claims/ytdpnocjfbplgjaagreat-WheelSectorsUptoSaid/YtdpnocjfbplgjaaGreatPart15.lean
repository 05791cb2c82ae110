/- Part 15. -/
import Derived.Test.YtdpnocjfbplgjaaGreatPart14
import Derived.KernelRfl
set_option linter.unusedVariables false
set_option linter.unusedSimpArgs false
section
namespace Go.Px
set_option maxRecDepth 100000
theorem AAk (xs:List (Int×Int)) (k:Nat) (s:Int×Int) (i:Nat) (hi:i<xs.length):pr (xs.set k s) i=(if k=i then s else pr xs i):=by
 rw [ZF,ZF,List.getElem?_set]
 by_cases h:k=i
 ·subst h
  rw [if_pos rfl,if_pos rfl,if_pos hi]
 ·rw [if_neg h,if_neg h]
theorem AAm (xs:List (Int×Int)) (s:Int×Int) (i:Nat) (hi:i<xs.length+1):pr (xs++[s]) i=(if i<xs.length then pr xs i else s):=by
 rw [ZF,ZF]
 by_cases h:i<xs.length
 ·rw [if_pos h,List.getElem?_append_left h]
 ·have:i=xs.length:=by omega
  subst this
  rw [if_neg h,List.getElem?_append_right (Nat.le_refl _),Nat.sub_self]
  rfl
theorem Zv {L:Rows} {i:Nat} (h:((evR L i).kind==2)=true):opn L (i+1)=opn L i+1:=by
 show opn L i+cond ((evR L i).kind==2) 1 0=_
 rw [h]
 rfl
theorem rb {L:Rows} {i:Nat} (h:((evR L i).kind==2)=false):opn L (i+1)=opn L i:=by
 show opn L i+cond ((evR L i).kind==2) 1 0=_
 rw [h]
 rfl
theorem qC {L : Rows} (hL : L.length ≤ 1048576) : ∀ i, i ≤ L.length → ∀ k, k < opn L i → ∃ a : Nat, (pr (Bs L i) k).1 = (a : Int) ∧ a < i ∧ opn L a = k ∧ ((evR L a).kind == 2) = true ∧
    ((k+1<opn L i∧∃ b:Nat,(pr (Bs L i) k).2=(b:Int)∧b<i∧opn L b=k+1∧((evR L b).kind==2)=true)∨(k+1=opn L i∧(pr (Bs L i) k).2=(L.length:Int)))
  | 0,_,k,hk=>absurd hk (Nat.not_lt_zero k)
  | i+1,hi,k,hk=>by
    have ih:=qC hL i (by omega)
    cases h2:(evR L i).kind==2 with
    | false =>
      rw [rb h2] at hk ⊢
      rw [iI h2]
      obtain ⟨a,h3,h4,h5,h6,h7⟩:=ih k hk
      refine ⟨a,h3,by omega,h5,h6,?_⟩
      rcases h7 with ⟨q,b,q1,q2,q3,q4⟩ | q
      · exact Or.inl ⟨q,b,q1,by omega,q3,q4⟩
      · exact Or.inr q
    | true =>
      rw [Zv h2] at hk ⊢
      have sl:=Xx L i
      have hle:=qR L i
      have ha:=fun (j:Nat) (hj:j<opn L i+1)=>AAm (Hk (Bs L i) (i:Int)) ((i:Int),(L.length:Int)) j (by rw [Wq,sl];exact hj)
      have e:Bs L (i+1)=Hk (Bs L i) (i:Int)++[((i:Int),(L.length:Int))]:=by
        show cond ((evR L i).kind==2) _ _=_
        rw [h2]
        rfl
      rw [e,ha k hk,Wq,sl]
      by_cases hkn:k<opn L i
      · rw [if_pos hkn]
        obtain ⟨a,h3,h4,h5,h6,h7⟩:=ih k hkn
        have hp:0<opn L i:=by omega
        have ix:=(mz hp (by omega)).1
        have es:Hk (Bs L i) (i:Int)=(Bs L i).set (opn L i - 1) ((pr (Bs L i) (opn L i - 1)).1,(i:Int)):=by
          unfold Hk
          rw [sl,show iLt 0 (opn L i:Int)=true by simp only [iLt,decide_eq_true_eq];omega,ix]
          rfl
        rw [es,AAk _ _ _ _ (by rw [sl];exact hkn)]
        by_cases hl:opn L i - 1=k
        · rw [if_pos hl,hl]
          exact ⟨a,h3,by omega,h5,h6,Or.inl ⟨by omega,i,rfl,by omega,by omega,h2⟩⟩
        · rw [if_neg hl]
          refine ⟨a,h3,by omega,h5,h6,Or.inl ⟨by omega,?_⟩⟩
          rcases h7 with ⟨q,b,q1,q2,q3,q4⟩ | q
          · exact ⟨b,q1,by omega,q3,q4⟩
          · omega
      · have hke:k=opn L i:=by omega
        rw [if_neg hkn]
        exact ⟨i,rfl,by omega,hke.symm,h2,Or.inr ⟨by omega,rfl⟩⟩
theorem yr {L:Rows} {a b:Nat} (h:opn L a=opn L b) (ha:((evR L a).kind==2)=true) (hb:((evR L b).kind==2)=true):a=b:=by
 rcases Nat.lt_trichotomy a b with h1 | h1 | h1
 ·have:=KU L (show a+1≤b by omega)
  have:=Zv ha
  omega
 ·exact h1
 ·have:=KU L (show b+1≤a by omega)
  have:=Zv hb
  omega
def Ei (L:Rows) (k:Nat):Nat:=if k<opn L L.length then (pr (Bs L L.length) k).1.toNat else L.length
structure Seg (L:Rows) (k:Nat):Prop where
 x0:(pr (Bs L L.length) k).1=(Ei L k:Int)
 x1:(pr (Bs L L.length) k).2=(Ei L (k+1):Int)
 lt:Ei L k<Ei L (k+1)
 le:Ei L (k+1)≤L.length
 o0:opn L (Ei L k)=k
 o1:opn L (Ei L (k+1))=k+1
 mid:∀ j,Ei L k≤j→j<Ei L (k+1)→opn L (j+1)=k+1
theorem seg {L:Rows} (hL:L.length≤1048576) {k:Nat} (h:k<opn L L.length):Seg L k:=by
 obtain ⟨a,h1,h2,h3,h4,h5⟩:=qC hL L.length (Nat.le_refl _) k h
 have p0:Ei L k=a:=by unfold Ei;rw [if_pos h,h1];rfl
 have key:(pr (Bs L L.length) k).2=(Ei L (k+1):Int)∧a<Ei L (k+1)∧Ei L (k+1)≤L.length∧opn L (Ei L (k+1))=k+1:=by
  rcases h5 with ⟨q,b,q1,q2,q3,q4⟩ | ⟨q,q1⟩
  ·obtain ⟨a',g1,g2,g3,g4,_⟩:=qC hL L.length (Nat.le_refl _) (k+1) q
   have e:a'=b:=yr (g3.trans q3.symm) g4 q4
   subst e
   have p1:Ei L (k+1)=a':=by unfold Ei;rw [if_pos q,g1];rfl
   rw [p1]
   refine ⟨q1,?_,by omega,q3⟩
   rcases Nat.lt_or_ge a a' with hl | hl
   ·exact hl
   ·have:=KU L hl
    omega
  ·have p1:Ei L (k+1)=L.length:=by unfold Ei;rw [if_neg (by omega)]
   rw [p1]
   exact ⟨q1,h2,Nat.le_refl _,q.symm⟩
 obtain ⟨k1,k2,k3,k4⟩:=key
 refine ⟨by rw [h1,p0],k1,by rw [p0];exact k2,k3,by rw [p0];exact h3,k4,fun j j1 j2=>?_⟩
 rw [p0] at j1
 have m1:=KU L (show a+1≤j+1 by omega)
 have m2:=KU L (show j+1≤Ei L (k+1) by omega)
 rw [Zv h4] at m1
 omega
theorem zV {L:Rows} {f:Ev→Int} {c:Int} (hf:∀ e,0≤f e∧f e≤c) (j:Nat):∀ i:Nat,0≤smi L f j i∧smi L f j i≤c * (i:Int)
 | 0=>by
  have:smi L f j 0=0:=rfl
  rw [this]
  omega
 | i+1=>by
  have ih:=zV (L:=L) hf j i
  have h1:=hf (evR L i)
  rw [sY,show c * ((i+1:Nat):Int)=c * (i:Int)+c by rw [show ((i+1:Nat):Int)=(i:Int)+1 by omega,Int.mul_add,Int.mul_one]]
  have h2:=hf (evR L i)
  generalize c * (i:Int)=z at ih ⊢
  cases Nat.beq (opn L (i+1)) (j+1)<;>simp only [cond_true,cond_false]<;>omega
structure Sml (x:Sco):Prop where
 runs:0≤x.runs∧x.runs≤1000000
 wk:0≤x.wickets∧x.wickets≤1000000
 balls:0≤x.balls∧x.balls≤1000000
 wides:0≤x.wides∧x.wides≤1000000
 no:0≤x.noballs∧x.noballs≤1000000
 bb:0≤x.byes∧x.byes≤1000000
 lb:0≤x.legbyes∧x.legbyes≤1000000
 pens:0≤x.pens∧x.pens≤1000000
end Go.Px
end
section
namespace Go.Px
set_option maxRecDepth 100000
structure InLog (L:Rows):Prop where
 len:L.length≤4000
 pen:∀ j,j<L.length→((evR L j).kind==13)=true→1≤opn L (j+1)
end Go.Px
end
section
namespace Go.Px
set_option maxRecDepth 100000
theorem WN {r:Rul} {L:Rows} (h:C9 r L=0):((AX r).2==0)=true∧A0 r=0∧L.length≤4000∧acc L L.length 0 (AX r).1∧BE r L=(stM L L.length 0 (AX r).1,-1,0):=by
 unfold C9 at h
 cases hc:A0 r==0 with
 | false=>rw [hc] at h;rw [show A0 r=0 from h] at hc;cases hc
 | true =>
  cases hl:iLt 4000 (L.length:Int) with
  | true=>rw [hc,hl] at h;cases h
  | false =>
   cases hr:(BE r L).2.2==0 with
   | false=>rw [hc,hl,hr] at h;cases h
   | true =>
    have hn:=(zI r).trans hc
    have hrep:BE r L=Cm L L.length 0 (AX r).1:=by unfold BE;rw [hn];rfl
    obtain ⟨k,h1,h2,h3,h4⟩:=ZG L L.length 0 (AX r).1
    have l4:L.length≤4000:=by simp only [iLt,decide_eq_false_iff_not] at hl;omega
    rcases h4 with ⟨h5,h6⟩ | ⟨h5,h6,h7⟩
    ·subst h5
     exact ⟨hn,beq_iff_eq.1 hc,l4,h2,hrep.trans h6⟩
    ·rw [hrep,h7] at hr
     rw [h6] at hr
     cases hr
end Go.Px
end
section
namespace Go.Px
set_option maxRecDepth 100000
theorem wq {N:Nat} {L:Rows}  : Rh N [.rows L]=some [.rows (cut L 60)]:=by
 show R1 (std (Lk N) N) (xOf _)=_
 simp only [R1,std,xOf,PXb,PXc,PXn,PXm,Nat.reduceAdd,Int.reduceBEq,ABD (show (0:Int)≤60 by omega)]
 rfl
def Oo (k s p o:Int) (y:Bool) (t f n b h v:Int):List PV:=[.int k,.int s,.int p,.int o,.bool y,.int 0,.int 0,.int t,.int f,.int n,.int 0,.int b,.bool false,.int h,.int v,.int 0,.int 0,.bool false,.int 0]
def RJ:Rows:=[Oo 1 1 0 0 true 0 0 0 0 0 0,Oo 2 0 1 2 false 0 0 0 0 0 0,Oo 8 0 2 0 false 0 0 0 0 0 0,Oo 3 0 1 0 false 0 0 0 0 0 0,Oo 4 0 0 0 false 1 1 1 0 0 0,Oo 4 0 0 0 false 1 0 0 0 1 1,Oo 2 0 2 1 false 0 0 0 0 0 0,Oo 8 0 1 0 false 0 0 0 0 0 0,Oo 3 0 2 0 false 0 0 0 0 0 0,Oo 4 0 0 0 false 2 0 0 0 0 0,Oo 4 0 0 0 false 1 1 0 4 0 0]
def Qg:Rul:=⟨⟨#[84,69,83,84]⟩,2,1,1,4,0,1,1,false,0,0,0,11,[]⟩
theorem AA1:R6 4194304 []=some [.rows RJ]:=by kernel_rfl
theorem AAO:Lq 4194304 []=some Qg.ls:=by kernel_rfl
theorem Tq {x:Option (List PV)} {v:List PV} {f:List PV→Option (List PV)} {r:Option (List PV)} (h:x=some v) (hk:f v=r):x.bind f=r:=by rw [h];exact hk
end Go.Px
end
section
namespace Go.Px
set_option maxRecDepth 100000
structure Up (x y:Sco):Prop where
 side:y.side=x.side
 runs:x.runs≤y.runs
 wk:x.wickets≤y.wickets
 balls:x.balls≤y.balls
theorem Up.refl (x:Sco):Up x x:=⟨rfl,Int.le_refl _,Int.le_refl _,Int.le_refl _⟩
end Go.Px
end
section
namespace Go.Px
set_option maxRecDepth 100000
def AAa (L:Rows) (k:Nat):Rows:=List.drop (Ei L k) (List.take (Ei L (k+1)) L)
end Go.Px
end
section
namespace Go.Px
set_option maxRecDepth 100000
theorem je {L:Rows}:∀ k i m out,Q4 L (k+1) i m out=cond ((evR L (i+k)).kind==4) (Q4 L k i m out++[Ir ((i+k:Nat):Int) (stM L k i m) (Ar ((i+k:Nat):Int) (stM L k i m) (evR L (i+k))).1 (evR L (i+k)).ball]) (Q4 L k i m out)
 | 0,i,m,out=>rfl
 | k+1,i,m,out=>by
  have ih:=je (L:=L) k (i+1) (Ar i m (evR L i)).1 (cond ((evR L i).kind==4) (out++[Ir i m (Ar i m (evR L i)).1 (evR L i).ball]) out)
  rw [show i+1+k=i+(k+1) by omega] at ih
  exact ih
def ZS (x:List PV):List PV:=[.int (pvI (AA x 0)),.int (pvI (AA x 1)),.int (pvI (AA x 2)),.int (pvI (AA x 3)),.int (pvI (AA x 4)),.int (pvI (AA x 5)),.int (pvI (AA x 6)),.bool (pvB (AA x 7)),.int (pvI (AA x 8)),.int (pvI (AA x 9)),.int (pvI (AA x 10)),.int (pvI (AA x 11)),.int (pvI (AA x 12)),.bool (pvB (AA x 13)),.int (pvI (AA x 14)),.int (pvI (AA x 15)),.int (pvI (AA x 16)),.int (pvI (AA x 17)),.bool (pvB (AA x 18)),.int (pvI (AA x 19)),.int (pvI (AA x 20)),.int (pvI (AA x 21)),.int (pvI (AA x 22)),.int (pvI (AA x 23)),.int (pvI (AA x 24)),.int (pvI (AA x 25)),.bool (pvB (AA x 26)),.bool (pvB (AA x 27)),.bool (pvB (AA x 28)),.bool (pvB (AA x 29)),.int (pvI (AA x 30)),.int (pvI (AA x 31))]
def fil (k:Int):Rows→Rows
 | []=>[]
 | x::D=>cond (pvI (AA x 1)==k) (ZS x::fil k D) (fil k D)
theorem nF (k:Int):∀ A B,fil k (A++B)=fil k A++fil k B
 | [],B=>rfl
 | x::A,B=>by
  show cond _ (ZS x::fil k (A++B)) (fil k (A++B))=_
  rw [nF k A B]
  show _=cond (pvI (AA x 1)==k) (ZS x::fil k A) (fil k A)++fil k B
  cases pvI (AA x 1)==k<;>rfl
theorem ux (k:Int):∀ D,(fil k D).length≤D.length
 | []=>Nat.le_refl _
 | x::D=>by
  have:=ux k D
  show (cond (pvI (AA x 1)==k) (ZS x::fil k D) (fil k D)).length≤D.length+1
  cases pvI (AA x 1)==k
  ·exact Nat.le_succ_of_le this
  ·exact Nat.succ_le_succ this
theorem yG {D:Rows} {i:Nat} (h:i<D.length):D.take (i+1)=D.take i++[Ac D i]:=by
 rw [List.take_add_one,List.getElem?_eq_getElem h]
 unfold Ac
 rw [List.getD_eq_getElem?_getD,List.getElem?_eq_getElem h]
 rfl
theorem y6 {D:Rows} {i:Nat} {k:Int} (h:i<D.length):fil k (D.take (i+1))=cond (pvI (AK D i 1)==k) (fil k (D.take i)++[ZS (Ac D i)]) (fil k (D.take i)):=by
 rw [yG h,nF]
 show fil k (D.take i)++cond (pvI (AA (Ac D i) 1)==k) [ZS (Ac D i)] []=_
 show _=cond (pvI (AA (Ac D i) 1)==k) _ _
 cases pvI (AA (Ac D i) 1)==k
 ·exact List.append_nil _
 ·rfl
theorem rN {N : Nat} {D : Rows} {k : Int} (hN : 2097152 < N) (hD : D.length ≤ 1000000) {F : (List Af → Option (List PV)) → List PV → Option (List PV)}
    (h0:∀ self,F self [.rows (fil k D),.int (D.length:Int)]=some [.rows (fil k D)])
    (h1:∀ i self out,i<D.length→out.length≤i→F self [.rows out,.int (i:Int)]=self [.rows (cond (pvI (AK D i 1)==k) (out++[ZS (Ac D i)]) out),.int ((i+1:Nat):Int)]):Ek F N [.rows [],.int 0]=some [.rows (fil k D)]:=by
  have:=Ch (F:=F) (len:=D.length) (fun i=>[.rows (fil k (D.take i)),.int (i:Int)]) [.rows (fil k D)] (fun self=>by
    show F self [.rows (fil k (D.take D.length)),_]=_
    rw [List.take_length]
    exact h0 self) (fun i self hi=>by
    have hl:=ux k (D.take i)
    rw [List.length_take] at hl
    rw [y6 hi]
    exact h1 i self _ hi (by omega)) N (by omega)
  exact this
set_option maxHeartbeats 2000000 in
theorem o5 {N:Nat} {D:Rows} {k:Int} (hN:2097152<N) (hD:D.length≤1000000):MI N [.rows D,.int k]=some [.rows (fil k D)]:=by
 show Mn (std (Wb N) N) (xOf _)=_
 simp only [Mn,std,xOf,PXb]
 refine AL (rN hN hD ?_ ?_) rfl
 ·intro self
  simp only [PXb,PXc,PXn,AB,As]
 ·intro i self out hi ho
  have sm:iSm ((out.length+1:Nat):Int) 216=true:=DP (by omega) (by omega)
  simp only [PXb,PXc,PXn,AB,H5 (show i≤1099511627776 by omega),Ao hi,AP hi,Nat.reduceAdd,List.length_append,List.length_cons,List.length_nil,sm]
  cases pvI (AK D i 1)==k<;>rfl
theorem sJ {d:Del} (h:(Cz d==0)=true):0≤d.sector∧d.sector≤8:=by
 unfold Cz at h
 cases h1:(iLt d.type 1||iLt 3 d.type||iLt 3 d.source||iLt 10 d.how || !btw d.sector 0 8) with
 | true=>rw [h1] at h;cases h
 | false =>
  simp only [btw,iLe,Bool.or_eq_false_iff,Bool.not_eq_false',Bool.and_eq_true,decide_eq_true_eq] at h1
  exact h1.2
structure BallF (r:Rul) (L:Rows) (a:Nat):Prop where
 one:1≤opn L a
 lnx:lnx (stM L a 0 (AX r).1).inns=opn L a - 1
 inn:IntKind.i64.wrap (((stM L a 0 (AX r).1).inns.length:Int) - 1)=((opn L a - 1:Nat):Int)
 ok:InnOk r (AY (stM L a 0 (AX r).1))
 rules:(stM L a 0 (AX r).1).rules=r
 ref:(Fp r (AY (stM L a 0 (AX r).1)) (evR L a).ball==0)=true
 over:(AY (stM L a 0 (AX r).1)).complete≤1000
theorem xK {r:Rul} {L:Rows} (hc:C9 r L=0) {a:Nat} (ha:a<L.length) (hk:((evR L a).kind==4)=true):BallF r L a:=by
 obtain ⟨h1,h2,h3,h4,h5⟩:=WN hc
 obtain ⟨li,so,_⟩:=Tl h1 h4 a (by omega)
 obtain ⟨_,_,hi⟩:=Tl h1 h4 L.length (Nat.le_refl _)
 have e:=beq_iff_eq.1 hk
 have one:=(hi a ha).2.play (by rw [e];rfl) (by rw [e];rfl) (by rw [e];rfl) (by rw [e];rfl)
 have a0:=Yf L.length 0 _ h4 a ha
 rw [Nat.zero_add] at a0
 have q:=(YZ a0).1
 rw [q] at a0
 obtain ⟨g1,g2,g3,g4⟩:=Zd a0 hk
 have sl:=so.len
 have ll:=li.len
 have lx:Px.lnx (stM L a 0 (AX r).1).inns=opn L a - 1:=by
  unfold Px.lnx
  rw [ll,CP (by omega) (by omega)]
  omega
 have rl:=so.rules
 obtain ⟨hv,he,hn,hw,hp,hs⟩:=Yn g3
 rw [rl] at hv hp
 have ok:=NX.1 hv
 have hpb:BJ r (AY (stM L a 0 (AX r).1)) (evR L a)=II r (AY (stM L a 0 (AX r).1)) (evR L a).ball:=by unfold BJ;rw [e];rfl
 rw [hpb] at hp
 have cl:=xi h1 h4 a (by omega)
 have at1:=cl.at' (opn L a - 1) (by omega)
 have kx:sco (Fj (stM L a 0 (AX r).1)).xs (opn L a - 1)=Bd r.balls (AY (stM L a 0 (AX r).1)):=by
  unfold Fj AY
  rw [rl,lx]
  exact Tp _ _ (by omega)
 rw [kx] at at1
 have bl:CV r.balls (AY (stM L a 0 (AX r).1)).complete (AY (stM L a 0 (AX r).1)).inover=smi L (vJ r) (opn L a - 1) a:=congrArg Sco.balls at1
 have be:=(sq ok).1
 have cb:=zV (L:=L) (f:=vJ r) (c:=1) (fun e=>by unfold vJ;cases (KM r e).counts<;>simp) (opn L a - 1) a
 have q4:=(Dm ok.code).balls
 have io:=ok.io
 have co:=ok.complete
 unfold Bk at co
 have m1:=Int.mul_le_mul_of_nonneg_left q4.1 co.1
 refine ⟨one,lx,by rw [ll,CP (by omega) (by omega)];omega,ok,rl,(mR hp).1,?_⟩
 rw [bl] at be
 omega
def SM (r:Rul) (L:Rows) (k:Nat):Nat→Rows
 | 0=>[]
 | n+1=>cond ((evR L n).kind==4&&Nat.beq (opn L (n+1)) (k+1)) (SM r L k n++[Ir (n:Int) (stM L n 0 (AX r).1) (stM L (n+1) 0 (AX r).1) (evR L n).ball]) (SM r L k n)
theorem ur {r:Rul} {L:Rows} (hc:C9 r L=0) (k:Nat):∀ n,n≤L.length→fil (k:Int) (Q4 L n 0 (AX r).1 [])=SM r L k n
 | 0,_=>rfl
 | n+1,hn=>by
  have ih:=ur hc k n (by omega)
  rw [je,Nat.zero_add]
  have si:=ZC (L:=L) n 0 (AX r).1
  rw [Nat.zero_add] at si
  show _=cond ((evR L n).kind==4&&Nat.beq (opn L (n+1)) (k+1)) _ (SM r L k n)
  cases hk:(evR L n).kind==4 with
  | false=>exact ih
  | true =>
   have bf:=xK hc (show n<L.length by omega) hk
   have on:opn L (n+1)=opn L n:=rb (by rw [beq_iff_eq.1 hk];rfl)
   rw [cond_true,nF,ih,← si,on,Bool.true_and]
   show SM r L k n++cond (IntKind.i64.wrap (((stM L n 0 (AX r).1).inns.length:Int) - 1)==(k:Int)) [_] []=_
   rw [bf.inn]
   have one:=bf.one
   by_cases e:opn L n=k+1
   ·rw [e,et,show ((k+1 - 1:Nat):Int)=(k:Int) by omega,beq_self_eq_true]
    rfl
   ·rw [kv e,beq_false_of_ne (by omega)]
    exact List.append_nil _
theorem wW {r:Rul} {L:Rows} (hc:C9 r L=0) (k:Nat):fil (k:Int) (B3 r L)=SM r L k L.length:=by
 obtain ⟨h1,h2,h3,h4,h5⟩:=WN hc
 have:B3 r L=Q4 L L.length 0 (AX r).1 []:=by
  unfold B3
  rw [h1]
  obtain ⟨j,j1,j2,j3,j4⟩:=ZG L L.length 0 (AX r).1
  show Mq L L.length 0 (AX r).1 []=_
  rw [j3 []]
  rcases j4 with ⟨j5,_⟩ | ⟨j5,j6,j7⟩
  ·rw [j5]
  ·have hh:=Yf L.length 0 _ h4 j j5
   rw [hh] at j6
   cases j6
 rw [this]
 exact ur hc k L.length (Nat.le_refl _)
structure RowF (r:Rul) (x:List PV):Prop where
 over:∃ o:Nat,o≤1000∧pvI (AA x 2)=(o:Int)
 sector:∃ s:Nat,s≤8∧pvI (AA x 19)=(s:Int)
 striker:1≤pvI (AA x 5)∧pvI (AA x 5)≤r.side
 cre:∃ d,pvI (AA x 20)=(AE r d).batter∧pvI (AA x 21)=(AE r d).wides∧pvI (AA x 22)=(AE r d).noballs∧pvI (AA x 23)=(AE r d).byes∧pvI (AA x 24)=(AE r d).legbyes∧pvI (AA x 25)=(AE r d).bowler
theorem ABF {r:Rul} {L:Rows} (hc:C9 r L=0) {a:Nat} (ha:a<L.length) (hk:((evR L a).kind==4)=true) (t:Mat):RowF r (Ir (a:Int) (stM L a 0 (AX r).1) t (evR L a).ball):=by
 have bf:=xK hc ha hk
 obtain ⟨q1,q2,q3,q4,q5,q6⟩:=cJ bf.ref
 have ls:=sJ q4
 have co:=bf.ok.complete
 unfold Bk at co
 have st:=bf.ok.st
 have over:=bf.over
 have beg:Bo (AY (stM L a 0 (AX r).1)).batters=true:=by
  obtain ⟨h1,h2,h3,h4,h5⟩:=WN hc
  have a0:=Yf L.length 0 _ h4 a ha
  rw [Nat.zero_add] at a0
  have q:=(YZ a0).1
  rw [q] at a0
  obtain ⟨g1,g2,g3,g4⟩:=Zd a0 hk
  exact jU (Yn g3).2.2.2.1 (by rw [beq_iff_eq.1 hk];rfl)
 have z1:=(iR q1 beg).1
 rw [beq_eq_false_iff_ne] at z1
 refine ⟨⟨(AY (stM L a 0 (AX r).1)).complete.toNat,by omega,?_⟩,⟨(evR L a).ball.sector.toNat,by omega,?_⟩,?_,(evR L a).ball,?_⟩
 ·show (AY (stM L a 0 (AX r).1)).complete=_
  omega
 ·show (evR L a).ball.sector=_
  omega
 ·show 1≤(AY (stM L a 0 (AX r).1)).striker∧(AY (stM L a 0 (AX r).1)).striker≤r.side
  omega
 ·have rl:=bf.rules
  show (AE (stM L a 0 (AX r).1).rules _).batter=_∧(AE (stM L a 0 (AX r).1).rules _).wides=_∧(AE (stM L a 0 (AX r).1).rules _).noballs=_∧(AE (stM L a 0 (AX r).1).rules _).byes=_∧(AE (stM L a 0 (AX r).1).rules _).legbyes=_∧(AE (stM L a 0 (AX r).1).rules _).bowler=_
  rw [rl]
  exact ⟨rfl,rfl,rfl,rfl,rfl,rfl⟩
theorem zY {r:Rul} {L:Rows} (hc:C9 r L=0) (k:Nat):∀ n,n≤L.length→(SM r L k n).length≤n∧∀ x,x∈SM r L k n→RowF r x
 | 0,_=>⟨Nat.le_refl _,fun x hx=>absurd hx (List.not_mem_nil)⟩
 | n+1,hn=>by
  obtain ⟨i1,i2⟩:=zY hc k n (by omega)
  show (cond ((evR L n).kind==4&&Nat.beq (opn L (n+1)) (k+1)) _ (SM r L k n)).length≤n+1∧∀ x,x∈cond ((evR L n).kind==4&&Nat.beq (opn L (n+1)) (k+1)) _ (SM r L k n)→RowF r x
  cases hk:(evR L n).kind==4 with
  | false=>exact ⟨Nat.le_succ_of_le i1,i2⟩
  | true =>
   cases Nat.beq (opn L (n+1)) (k+1) with
   | false=>exact ⟨Nat.le_succ_of_le i1,i2⟩
   | true =>
    refine ⟨?_,fun x hx=>?_⟩
    ·show (SM r L k n++[_]).length≤n+1
     rw [List.length_append]
     exact Nat.succ_le_succ i1
    ·rcases List.mem_append.1 hx with hx | hx
     ·exact i2 x hx
     ·rw [List.mem_singleton.1 hx]
      exact ABF hc (by omega) hk _
end Go.Px
end
section
namespace Go.Px
set_option maxRecDepth 100000
def BF (r:Rul) (L:Rows) (k:Int):Rows×Int:=cond (!(C9 r L==0)) ([],C9 r L) (cond (iLt k 0||iLe (opn L L.length:Int) k) ([],2) (fil k (B3 r L),0))
theorem il {r:Rul} {L:Rows} {k:Int} (h:((BF r L k).2==0)=true):C9 r L=0∧0≤k∧k<(opn L L.length:Int)∧(BF r L k).1=SM r L k.toNat L.length∧(BF r L k).2=0∧(BF r L k).1.length≤4000∧∀ i,i<(BF r L k).1.length→RowF r (Ac (BF r L k).1 i):=by
 unfold BF at h ⊢
 cases hc:C9 r L==0 with
 | false=>rw [hc] at h;exact absurd (show (C9 r L==0)=true from h) (by rw [hc];decide)
 | true =>
  have c0:=beq_iff_eq.1 hc
  cases hb:iLt k 0||iLe (opn L L.length:Int) k with
  | true=>rw [hc,hb] at h;cases h
  | false =>
   simp only [Bool.or_eq_false_iff,iLt,iLe,decide_eq_false_iff_not] at hb
   obtain ⟨K,rfl⟩:∃ K:Nat,k=(K:Int):=⟨k.toNat,by omega⟩
   have e:=wW c0 K
   obtain ⟨b1,b2⟩:=zY c0 K L.length (Nat.le_refl _)
   have l4:=(WN c0).2.2.1
   refine ⟨c0,by omega,by omega,?_,rfl,?_,fun i hi=>?_⟩
   ·exact e
   ·show (fil (K:Int) (B3 r L)).length≤4000
    rw [e]
    omega
   ·change i<(fil (K:Int) (B3 r L)).length at hi
    show RowF r (Ac (fil (K:Int) (B3 r L)) i)
    rw [e] at hi ⊢
    refine b2 _ ?_
    unfold Ac
    rw [List.getD_eq_getElem?_getD,List.getElem?_eq_getElem hi]
    exact List.getElem_mem hi
set_option maxHeartbeats 4000000 in
theorem aI {N:Nat} {r1 r2 r3 r4 r5 r6 r7 r9 r10 r11 r12:Int} {r8:Bool} {r0:ByteArray} {r13:Rows} {L:Rows} {k:Int} (hN:2097152<N) (hs:r0.size≤1048576) (h13:r13.length≤1048576) (hL:L.length≤1000000):C0 N [.str r0,.int r1,.int r2,.int r3,.int r4,.int r5,.int r6,.int r7,.bool r8,.int r9,.int r10,.int r11,.int r12,.rows r13,.rows L,.int k]=some [.rows (BF (⟨r0,r1,r2,r3,r4,r5,r6,r7,r8,r9,r10,r11,r12,r13⟩:Rul) L k).1,.int (BF (⟨r0,r1,r2,r3,r4,r5,r6,r7,r8,r9,r10,r11,r12,r13⟩:Rul) L k).2]:=by
 show I3 (std (Cl N) N) (xOf _)=_
 generalize hres:(some [.rows (BF (⟨r0,r1,r2,r3,r4,r5,r6,r7,r8,r9,r10,r11,r12,r13⟩:Rul) L k).1,.int (BF (⟨r0,r1,r2,r3,r4,r5,r6,r7,r8,r9,r10,r11,r12,r13⟩:Rul) L k).2]:Option (List PV))=RR
 have hl:L.length≤1048576:=by omega
 simp only [I3,VS,SU,XY,std,xOf,PXb,tL hN hs h13 hl,mZ hN hl,ku hN hs h13 hl,Xe,PXc]
 subst hres;simp only [BF]
 cases hc:C9 (⟨r0,r1,r2,r3,r4,r5,r6,r7,r8,r9,r10,r11,r12,r13⟩:Rul) L==0 with
 | false=>rfl
 | true =>
  have pl:=jd (⟨r0,r1,r2,r3,r4,r5,r6,r7,r8,r9,r10,r11,r12,r13⟩:Rul) L
  cases h0:iLt k 0 with
  | true=>rfl
  | false =>
   simp only [PXb,Bool.not_true,Bool.not_false,PXp,Xx]
   cases h1:iLe (opn L L.length:Int) k with
   | true=>rfl
   | false =>
    simp only [PXb]
    generalize B3 (⟨r0,r1,r2,r3,r4,r5,r6,r7,r8,r9,r10,r11,r12,r13⟩:Rul) L=D at *
    refine AL (rN hN (show D.length≤1000000 by omega) ?_ ?_) rfl
    ·intro self
     simp only [PXb,PXc,PXn,AB,As]
    ·intro i self out hi ho
     have sm:iSm ((out.length+1:Nat):Int) 216=true:=DP (by omega) (by omega)
     simp only [PXb,PXc,PXn,AB,H5 (show i≤1099511627776 by omega),Ao hi,AP hi,Nat.reduceAdd,List.length_append,List.length_cons,List.length_nil,sm]
     cases pvI (AK D i 1)==k<;>rfl
set_option maxHeartbeats 4000000 in
theorem yo {N:Nat} {r1 r2 r3 r4 r5 r6 r7 r9 r10 r11 r12:Int} {r8:Bool} {r0:ByteArray} {r13:Rows} {L:Rows} {k:Int} (hN:2097152<N) (hs:r0.size≤1048576) (h13:r13.length≤1048576) (hL:L.length≤1000000):Uj N [.str r0,.int r1,.int r2,.int r3,.int r4,.int r5,.int r6,.int r7,.bool r8,.int r9,.int r10,.int r11,.int r12,.rows r13,.rows L,.int k]=some [.rows (cond ((BF (⟨r0,r1,r2,r3,r4,r5,r6,r7,r8,r9,r10,r11,r12,r13⟩:Rul) L k).2==0) (AAa L k.toNat) []),.rows (BF (⟨r0,r1,r2,r3,r4,r5,r6,r7,r8,r9,r10,r11,r12,r13⟩:Rul) L k).1,.int (BF (⟨r0,r1,r2,r3,r4,r5,r6,r7,r8,r9,r10,r11,r12,r13⟩:Rul) L k).2]:=by
 show UU (std (Ep N) N) (xOf _)=_
 generalize hres:(some [.rows (cond ((BF (⟨r0,r1,r2,r3,r4,r5,r6,r7,r8,r9,r10,r11,r12,r13⟩:Rul) L k).2==0) (AAa L k.toNat) []),.rows (BF (⟨r0,r1,r2,r3,r4,r5,r6,r7,r8,r9,r10,r11,r12,r13⟩:Rul) L k).1,.int (BF (⟨r0,r1,r2,r3,r4,r5,r6,r7,r8,r9,r10,r11,r12,r13⟩:Rul) L k).2]:Option (List PV))=RR
 have hl:L.length≤1048576:=by omega
 simp only [UU,dX,bv,fR,On,std,xOf,PXb,uZ hN hs h13 hl,ph hN hl,wN hN hs h13 hl,Xe,PXc]
 subst hres;simp only [BF]
 cases hc:C9 (⟨r0,r1,r2,r3,r4,r5,r6,r7,r8,r9,r10,r11,r12,r13⟩:Rul) L==0 with
 | false=>simp only [PXb,Bool.not_false,hc]
 | true =>
  have pl:=jd (⟨r0,r1,r2,r3,r4,r5,r6,r7,r8,r9,r10,r11,r12,r13⟩:Rul) L
  simp only [PXb,Bool.not_true,PXp,Xx]
  cases hb:iLt k 0||iLe (opn L L.length:Int) k with
  | true=>rfl
  | false =>
   simp only [Bool.or_eq_false_iff,iLt,iLe,decide_eq_false_iff_not] at hb
   obtain ⟨K,rfl⟩:∃ K:Nat,k=(K:Int):=⟨k.toNat,by omega⟩
   have hk:K<opn L L.length:=by omega
   have sg:=seg hl hk
   have sgl:=sg.lt
   have sge:=sg.le
   have rg:iRg (Ei L K:Int) (Ei L (K+1):Int) (L.length:Int)=true:=by simp only [iRg,decide_eq_true_eq];omega
   simp only [PXb,AP hk,sg.x0,sg.x1,rg,Int.toNat_natCast,On,o5 hN (show (B3 (⟨r0,r1,r2,r3,r4,r5,r6,r7,r8,r9,r10,r11,r12,r13⟩:Rul) L).length≤1000000 by omega),beq_self_eq_true]
   rfl
def whX (x:List PV) (p:Int) (xs:List Int):List Int:=cond (p==0||pvI (AA x 5)==p) (xs.set (pvI (AA x 19)).toNat (IntKind.i64.wrap (xs.getD (pvI (AA x 19)).toNat 0+pvI (AA x 20)))) xs
def whN (X:Rows) (p:Int):Nat→List Int
 | 0=>List.replicate 9 0
 | i+1=>whX (Ac X i) p (whN X p i)
theorem ei (X:Rows) (p:Int):∀ i,(whN X p i).length=9
 | 0=>List.length_replicate
 | i+1=>by
  show (cond _ _ (whN X p i)).length=9
  cases (p==0||pvI (AA (Ac X i) 5)==p)
  ·exact ei X p i
  ·exact List.length_set.trans (ei X p i)
def Ef (r:Rul) (L:Rows) (k p:Int):List Int×Int:=cond (!((BF r L k).2==0)) ([],(BF r L k).2) (cond (iLt p 0||iLt r.side p) ([],2) (whN (BF r L k).1 p (BF r L k).1.length,0))
theorem un {N : Nat} {r : Rul} {X : Rows} {p : Int} (hN : 2097152 < N) (hX : X.length ≤ 4000) (rf : ∀ i, i < X.length → RowF r (Ac X i)) {F : (List Af → Option (List PV)) → List PV → Option (List PV)}
    (h0:∀ xs self,F self [.rows (BC xs),.int (X.length:Int)]=some [.rows (BC xs)])
    (h1:∀ (i s:Nat) self (xs:List Int),i<X.length→s≤8→xs.length=9→pvI (AK X i 19)=(s:Int)→F self [.rows (BC xs),.int (i:Int)]=self [.rows (BC (cond (p==0||pvI (AK X i 5)==p) (xs.set s (IntKind.i64.wrap (xs.getD s 0+pvI (AK X i 20)))) xs)),.int ((i+1:Nat):Int)]):Ek F N [.rows (BC (List.replicate 9 0)),.int 0]=some [.rows (BC (whN X p X.length))]:=by
  have:=Ch (F:=F) (len:=X.length) (fun i=>[.rows (BC (whN X p i)),.int (i:Int)]) [.rows (BC (whN X p X.length))] (fun self=>h0 _ self) (fun i self hi=>by
    obtain ⟨s,s1,s2⟩:=(rf i hi).sector
    have:=h1 i s self (whN X p i) hi s1 (ei X p i) s2
    have e:whN X p (i+1)=cond (p==0||pvI (AK X i 5)==p) ((whN X p i).set s (IntKind.i64.wrap ((whN X p i).getD s 0+pvI (AK X i 20)))) (whN X p i):=by
      show whX (Ac X i) p (whN X p i)=_
      unfold whX
      rw [s2]
      rfl
    rw [← e] at this
    exact this) N (by omega)
  exact this
set_option maxHeartbeats 4000000 in
theorem bE {N:Nat} {r1 r2 r3 r4 r5 r6 r7 r9 r10 r11 r12:Int} {r8:Bool} {r0:ByteArray} {r13:Rows} {L:Rows} {k:Int} {p:Int} (hN:2097152<N) (hs:r0.size≤1048576) (h13:r13.length≤1048576) (hL:L.length≤1000000):DX N [.str r0,.int r1,.int r2,.int r3,.int r4,.int r5,.int r6,.int r7,.bool r8,.int r9,.int r10,.int r11,.int r12,.rows r13,.rows L,.int k,.int p]=some [.rows (BC (Ef (⟨r0,r1,r2,r3,r4,r5,r6,r7,r8,r9,r10,r11,r12,r13⟩:Rul) L k p).1),.int (Ef (⟨r0,r1,r2,r3,r4,r5,r6,r7,r8,r9,r10,r11,r12,r13⟩:Rul) L k p).2]:=by
 show MJ (std (OW N) N) (xOf _)=_
 generalize hres:(some [.rows (BC (Ef (⟨r0,r1,r2,r3,r4,r5,r6,r7,r8,r9,r10,r11,r12,r13⟩:Rul) L k p).1),.int (Ef (⟨r0,r1,r2,r3,r4,r5,r6,r7,r8,r9,r10,r11,r12,r13⟩:Rul) L k p).2]:Option (List PV))=RR
 simp only [MJ,TF,std,xOf,PXb,aI hN hs h13 hL]
 subst hres;simp only [Ef]
 cases hb:(BF (⟨r0,r1,r2,r3,r4,r5,r6,r7,r8,r9,r10,r11,r12,r13⟩:Rul) L k).2==0 with
 | false=>rfl
 | true =>
  obtain ⟨b1,b2,b3,b4,b5,b6,b7⟩:=il hb
  generalize (BF (⟨r0,r1,r2,r3,r4,r5,r6,r7,r8,r9,r10,r11,r12,r13⟩:Rul) L k).1=X at *
  have s9:iSm 9 8=true:=by decide
  simp only [PXb,Bool.not_true]
  cases iLt p 0||iLt r1 p with
  | true=>rfl
  | false =>
   have rz:List.replicate (Int.toNat 9) [PV.int 0]=BC (List.replicate 9 0):=rfl
   simp only [PXb,s9,rz]
   refine AL (un hN b6 b7 ?_ ?_) rfl
   ·intro xs self
    simp only [PXb,PXc,PXn,AB,As]
   ·intro i s self xs hi h8 hx he
    have i9:iIn (s:Int) (xs.length:Int)=true:=AP (by omega)
    simp only [PXb,PXc,PXn,AB,H5 (show i≤1099511627776 by omega),Ao hi,AP hi,he,KF,i9,Int.toNat_natCast,A7,yx,jm]
    cases (p==0||atI X i 5==p)<;>rfl
set_option maxHeartbeats 4000000 in
theorem tM {N:Nat} {r1 r2 r3 r4 r5 r6 r7 r9 r10 r11 r12:Int} {r8:Bool} {r0:ByteArray} {r13:Rows} {L:Rows} {k:Int} {p:Int} (hN:2097152<N) (hs:r0.size≤1048576) (h13:r13.length≤1048576) (hL:L.length≤1000000):L8 N [.str r0,.int r1,.int r2,.int r3,.int r4,.int r5,.int r6,.int r7,.bool r8,.int r9,.int r10,.int r11,.int r12,.rows r13,.rows L,.int k,.int p]=some [.rows (BC (Ef (⟨r0,r1,r2,r3,r4,r5,r6,r7,r8,r9,r10,r11,r12,r13⟩:Rul) L k p).1),.int (Ef (⟨r0,r1,r2,r3,r4,r5,r6,r7,r8,r9,r10,r11,r12,r13⟩:Rul) L k p).2]:=by
 show L1 (std (Fx N) N) (xOf _)=_
 generalize hres:(some [.rows (BC (Ef (⟨r0,r1,r2,r3,r4,r5,r6,r7,r8,r9,r10,r11,r12,r13⟩:Rul) L k p).1),.int (Ef (⟨r0,r1,r2,r3,r4,r5,r6,r7,r8,r9,r10,r11,r12,r13⟩:Rul) L k p).2]:Option (List PV))=RR
 simp only [L1,cP,std,xOf,PXb,yo hN hs h13 hL]
 subst hres;simp only [Ef]
 cases hb:(BF (⟨r0,r1,r2,r3,r4,r5,r6,r7,r8,r9,r10,r11,r12,r13⟩:Rul) L k).2==0 with
 | false=>rfl
 | true =>
  obtain ⟨b1,b2,b3,b4,b5,b6,b7⟩:=il hb
  generalize (BF (⟨r0,r1,r2,r3,r4,r5,r6,r7,r8,r9,r10,r11,r12,r13⟩:Rul) L k).1=X at *
  have s9:iSm 9 8=true:=by decide
  simp only [PXb,Bool.not_true]
  cases iLt p 0||iLt r1 p with
  | true=>rfl
  | false =>
   have rz:List.replicate (Int.toNat 9) [PV.int 0]=BC (List.replicate 9 0):=rfl
   simp only [PXb,s9,rz]
   refine AL (un hN b6 b7 ?_ ?_) rfl
   ·intro xs self
    simp only [PXb,PXc,PXn,AB,As]
   ·intro i s self xs hi h8 hx he
    have i9:iIn (s:Int) (xs.length:Int)=true:=AP (by omega)
    simp only [PXb,PXc,PXn,AB,H5 (show i≤1099511627776 by omega),Ao hi,AP hi,he,KF,i9,Int.toNat_natCast,A7,yx,jm]
    cases (p==0||atI X i 5==p)<;>rfl
def U9 (xs:List Int) (n:Nat):List Int:=xs++List.replicate (n - xs.length) 0
def yv (x:List PV):Cre:=⟨pvI (AA x 20),pvI (AA x 21),pvI (AA x 22),pvI (AA x 23),pvI (AA x 24),pvI (AA x 25),pvB (AA x 26),pvB (AA x 27),pvB (AA x 28),pvB (AA x 29)⟩
def ovX (x:List PV) (xs:List Int):List Int:=(U9 xs ((pvI (AA x 2)).toNat+1)).set (pvI (AA x 2)).toNat (IntKind.i64.wrap ((U9 xs ((pvI (AA x 2)).toNat+1)).getD (pvI (AA x 2)).toNat 0+DH (yv x)))
def ovN (X:Rows):Nat→List Int
 | 0=>[]
 | i+1=>ovX (Ac X i) (ovN X i)
theorem u5 (xs:List Int) (n:Nat):(U9 xs n).length=max xs.length n:=by
 unfold U9
 rw [List.length_append,List.length_replicate]
 omega
theorem uo {r:Rul} {X:Rows} (rf:∀ i,i<X.length→RowF r (Ac X i)):∀ i,i≤X.length→(ovN X i).length≤1001
 | 0,_=>Nat.zero_le _
 | i+1,hi=>by
  have ih:=uo rf i (by omega)
  obtain ⟨o,o1,o2⟩:=(rf i (by omega)).over
  show (ovX (Ac X i) (ovN X i)).length≤1001
  unfold ovX
  rw [List.length_set,u5,o2]
  omega
theorem zE {N : Nat} {xs : List Int} {o : Nat} (hN : 2097152 < N) (ho : o ≤ 1000) (hx : xs.length ≤ 1001) {F : (List Af → Option (List PV)) → List PV → Option (List PV)}
    (h:∀ (ys:List Int) self,ys.length≤1001→F self [.rows (BC ys)]=cond (iLe (ys.length:Int) (o:Int)) (self [.rows (BC (ys++[0]))]) (some [.rows (BC ys)])):Ek F N [.rows (BC xs)]=some [.rows (BC (U9 xs (o+1)))]:=by
  have:=Ch (F:=F) (len:=o+1 - xs.length) (fun j=>[.rows (BC (xs++List.replicate j 0))]) [.rows (BC (U9 xs (o+1)))] (fun self=>by
    have:=h (xs++List.replicate (o+1 - xs.length) 0) self (by rw [List.length_append,List.length_replicate];omega)
    rw [List.length_append,List.length_replicate,show iLe ((xs.length+(o+1 - xs.length):Nat):Int) (o:Int)=false by simp only [iLe,decide_eq_false_iff_not];omega] at this
    exact this) (fun j self hj=>by
    have:=h (xs++List.replicate j 0) self (by rw [List.length_append,List.length_replicate];omega)
    rw [List.length_append,List.length_replicate,show iLe ((xs.length+j:Nat):Int) (o:Int)=true by simp only [iLe,decide_eq_true_eq];omega,List.append_assoc,← List.replicate_succ'] at this
    exact this) N (by omega)
  have e:xs++List.replicate 0 (0:Int)=xs:=List.append_nil _
  rw [e] at this
  exact this
def Re (r:Rul) (L:Rows) (k:Int):List Int×Int:=cond (!((BF r L k).2==0)) ([],(BF r L k).2) (ovN (BF r L k).1 (BF r L k).1.length,0)
theorem zl {N : Nat} {r : Rul} {X : Rows} (hN : 2097152 < N) (hX : X.length ≤ 4000) (rf : ∀ i, i < X.length → RowF r (Ac X i)) {F : (List Af → Option (List PV)) → List PV → Option (List PV)}
    (h0:∀ xs self,F self [.rows (BC xs),.int (X.length:Int)]=some [.rows (BC xs)])
    (h1:∀ (i o:Nat) self (xs:List Int),i<X.length→o≤1000→xs.length≤1001→pvI (AK X i 2)=(o:Int)→F self [.rows (BC xs),.int (i:Int)]=self [.rows (BC ((U9 xs (o+1)).set o (IntKind.i64.wrap ((U9 xs (o+1)).getD o 0+DH (yv (Ac X i)))))),.int ((i+1:Nat):Int)]):Ek F N [.rows [],.int 0]=some [.rows (BC (ovN X X.length))]:=by
  have:=Ch (F:=F) (len:=X.length) (fun i=>[.rows (BC (ovN X i)),.int (i:Int)]) [.rows (BC (ovN X X.length))] (fun self=>h0 _ self) (fun i self hi=>by
    obtain ⟨o,o1,o2⟩:=(rf i hi).over
    have:=h1 i o self (ovN X i) hi o1 (uo rf i (by omega)) o2
    have e:ovN X (i+1)=(U9 (ovN X i) (o+1)).set o (IntKind.i64.wrap ((U9 (ovN X i) (o+1)).getD o 0+DH (yv (Ac X i)))):=by
      show ovX (Ac X i) (ovN X i)=_
      unfold ovX
      rw [o2]
      rfl
    rw [← e] at this
    exact this) N (by omega)
  exact this
theorem ABE (ys:List Int) (v:Int):BC ys++[[.int v]]=BC (ys++[v]):=(List.map_append (f:=fun x:Int=>[PV.int x]) (l₁:=ys) (l₂:=[v])).symm
set_option maxHeartbeats 4000000 in
theorem nG {N:Nat} {r1 r2 r3 r4 r5 r6 r7 r9 r10 r11 r12:Int} {r8:Bool} {r0:ByteArray} {r13:Rows} {L:Rows} {k:Int} (hN:2097152<N) (hs:r0.size≤1048576) (h13:r13.length≤1048576) (hL:L.length≤1000000):E6 N [.str r0,.int r1,.int r2,.int r3,.int r4,.int r5,.int r6,.int r7,.bool r8,.int r9,.int r10,.int r11,.int r12,.rows r13,.rows L,.int k]=some [.rows (BC (Re (⟨r0,r1,r2,r3,r4,r5,r6,r7,r8,r9,r10,r11,r12,r13⟩:Rul) L k).1),.int (Re (⟨r0,r1,r2,r3,r4,r5,r6,r7,r8,r9,r10,r11,r12,r13⟩:Rul) L k).2]:=by
 show Ks (std (IU N) N) (xOf _)=_
 generalize hres:(some [.rows (BC (Re (⟨r0,r1,r2,r3,r4,r5,r6,r7,r8,r9,r10,r11,r12,r13⟩:Rul) L k).1),.int (Re (⟨r0,r1,r2,r3,r4,r5,r6,r7,r8,r9,r10,r11,r12,r13⟩:Rul) L k).2]:Option (List PV))=RR
 simp only [Ks,SH,Gt,std,xOf,PXb,aI hN hs h13 hL]
 subst hres;simp only [Re]
 cases hb:(BF (⟨r0,r1,r2,r3,r4,r5,r6,r7,r8,r9,r10,r11,r12,r13⟩:Rul) L k).2==0 with
 | false=>rfl
 | true =>
  obtain ⟨b1,b2,b3,b4,b5,b6,b7⟩:=il hb
  generalize (BF (⟨r0,r1,r2,r3,r4,r5,r6,r7,r8,r9,r10,r11,r12,r13⟩:Rul) L k).1=X at *
  simp only [PXb,Bool.not_true]
  refine AL (zl hN b6 b7 ?_ ?_) rfl
  ·intro xs self
   simp only [PXb,PXc,PXn,AB,As]
  ·intro i o self xs hi h8 hx he
   simp only [PXb,PXc,PXn,AB,Ao hi,AP hi,he]
   refine AL (zE hN h8 hx ?_) ?_
   ·intro ys self hy
    have sm:iSm ((ys.length+1:Nat):Int) 8=true:=DP (by omega) (by omega)
    simp only [PXb,PXc,PXn,AB,KF,ABE,List.length_append,List.length_cons,List.length_nil,sm,Nat.reduceAdd]
   ·have io:iIn (o:Int) ((U9 xs (o+1)).length:Int)=true:=AP (by rw [u5];omega)
    simp only [PXb,PXc,PXn,AB,PXc,H5 (show i≤1099511627776 by omega),KF,io,Gt,Us,Nat.reduceAdd,Int.toNat_natCast,A7,yx,jm]
    rfl
end Go.Px
end
section
namespace Go.Px
set_option maxRecDepth 100000
def zG (L:Rows):Rows×Int:=cond (!((L.length:Int)==9)) ([],1) (BC [atI L 0 0,atI L 8 0,atI L 7 0,atI L 6 0,atI L 5 0,atI L 4 0,atI L 3 0,atI L 2 0,atI L 1 0],0)
def miN (X:Rows):Nat→List Int
 | 0=>[atI X 0 0,0,0,0,0,0,0,0,0]
 | j+1=>(miN X j).set (8 - j) (atI X (j+1) 0)
theorem nH (X:Rows):∀ j,(miN X j).length=9
 | 0=>rfl
 | j+1=>by
  show ((miN X j).set _ _).length=_
  rw [List.length_set,nH X j]
set_option maxHeartbeats 4000000 in
theorem me {N:Nat} {L:Rows} (hN:2097152<N):HY N [.rows L]=some [.rows (zG L).1,.int (zG L).2]:=by
 show K2 (std (UE N) N) (xOf _)=_
 simp only [K2,std,xOf,PXb]
 unfold zG
 cases h9:(L.length:Int)==9 with
 | false=>rfl
 | true =>
  have e9:(L.length:Int)=9:=beq_iff_eq.1 h9
  have s9:iSm 9 8=true:=by decide
  have i0:iIn 0 9=true:=by decide
  have n9:L.length=9:=by omega
  have c9:((9:Nat):Int)=9:=rfl
  have z0:(0:Int).toNat=0:=rfl
  have st:(List.replicate 9 (0:Int)).set 0 (pvI (AK L 0 0))=miN L 0:=rfl
  simp only [PXb,n9,c9,s9,i0,AA4,z0,jm,st,KF,nH,List.length_replicate,Bool.not_true,beq_self_eq_true]
  refine AL (Ch (len:=8) (fun j=>[.rows (BC (miN L j)),.int ((j+1:Nat):Int)]) [.rows (BC (miN L 8))] ?_ ?_ N (by omega)) rfl
  ·intro self
   rfl
  ·intro j self hj
   have w1:IntKind.i64.wrap (((j+1:Nat):Int)+1)=((j+1+1:Nat):Int):=H5 (by omega)
   have w2:IntKind.i64.wrap (9 - ((j+1:Nat):Int))=((8 - j:Nat):Int):=by rw [CP (by omega) (by omega)];omega
   have l1:iLe ((j+1:Nat):Int) 8=true:=by simp only [iLe,decide_eq_true_eq];omega
   have i1:iIn ((j+1:Nat):Int) 9=true:=by simp only [iIn,decide_eq_true_eq];omega
   have i2:iIn ((8 - j:Nat):Int) ((BC (miN L j)).length:Int)=true:=by rw [KF,nH];simp only [iIn,decide_eq_true_eq];omega
   simp only [PXb,PXc,PXn,AB,w1,w2,l1,i1,i2,Int.toNat_natCast,jm,miN,A7]
theorem xj (r:Rul) (L:Rows) (k p:Int):(Ef r L k p).1.length≤9:=by
 unfold Ef
 cases (BF r L k).2==0 with
 | false=>exact Nat.zero_le _
 | true =>
  cases iLt p 0||iLt r.side p with
  | true=>exact Nat.zero_le _
  | false=>exact Nat.le_of_eq (ei _ _ _)
theorem AAq:Re Qg RJ 1=([5],0):=by kernel_rfl
theorem zg:Ef Qg RJ 1 2=([4,0,0,0,0,0,0,0,0],0):=by kernel_rfl
set_option maxHeartbeats 2000000 in
theorem tF:L7 4194304 []=some [.bool true]:=by
 have hs:Qg.name.size≤1048576:=by decide
 have hl:RJ.length≤1000000:=by decide
 have hN:2097152<4194304:=by omega
 have k1:E6 4194304 (Qg.ls++[.rows RJ,.int 1])=some [.rows (BC (Re Qg RJ 1).1),.int (Re Qg RJ 1).2]:=nG hN hs (Nat.zero_le _) hl
 have k2:DX 4194304 (Qg.ls++[.rows RJ,.int 1,.int 2])=some [.rows (BC (Ef Qg RJ 1 2).1),.int (Ef Qg RJ 1 2).2]:=bE hN hs (Nat.zero_le _) hl
 have k3:=me (L:=[[.int 9],[.int 1],[.int 2],[.int 3],[.int 4],[.int 5],[.int 6],[.int 7],[.int 8]]) hN
 rw [AAq] at k1
 rw [zg] at k2
 show Q5 (std (DV 4194304) 4194304) (xOf [])=_
 simp only [Q5,VW,QZ,Uc,Tv,Ya,bm,std,xOf,PXb,AA1,AAO]
 refine Tq k1 ?_
 refine Tq k2 ?_
 refine Tq k3 ?_
 refine Tq (GV (L:=BC [5]) (M:=[[.int 5]]) hN (by decide)) ?_
 refine Tq (GV (L:=BC [4,0,0,0,0,0,0,0,0]) (M:=[[.int 4],[.int 0],[.int 0],[.int 0],[.int 0],[.int 0],[.int 0],[.int 0],[.int 0]]) hN (by decide)) ?_
 refine Tq (GV (L:=BC [9,8,7,6,5,4,3,2,1]) (M:=[[.int 9],[.int 8],[.int 7],[.int 6],[.int 5],[.int 4],[.int 3],[.int 2],[.int 1]]) hN (by decide)) ?_
 rfl
set_option maxHeartbeats 4000000 in
theorem eB {N:Nat} {r1 r2 r3 r4 r5 r6 r7 r9 r10 r11 r12:Int} {r8:Bool} {r0:ByteArray} {r13:Rows} {L:Rows} {k:Int} {p:Int} (ha:L7 N []=some [.bool true]) (hN:2097152<N) (hs:r0.size≤1048576) (h13:r13.length≤1048576):D9 N [.str r0,.int r1,.int r2,.int r3,.int r4,.int r5,.int r6,.int r7,.bool r8,.int r9,.int r10,.int r11,.int r12,.rows r13,.rows L,.int k,.int p]=some [.bool true]:=by
 show EA (std (BA N) N) (xOf _)=_
 have l:(cut L 60).length≤1000000:=Nat.le_trans (AAu L 60) (show 60≤1000000 by omega)
 simp only [EA,QR,SR,O7,QX,LJ,std,xOf,PXb,ha,wq,bE hN hs h13 l,tM hN hs h13 l]
 have wl:=xj (⟨r0,r1,r2,r3,r4,r5,r6,r7,r8,r9,r10,r11,r12,r13⟩:Rul) (cut L 60) k p
 simp only [GV hN (show (BC (Ef (⟨r0,r1,r2,r3,r4,r5,r6,r7,r8,r9,r10,r11,r12,r13⟩:Rul) (cut L 60) k p).1).length≤1048576 by rw [KF];omega),PXb,PXc,PXn,PXm,Nat.reduceAdd,Int.reduceBEq,y7,beq_self_eq_true]
end Go.Px
end
