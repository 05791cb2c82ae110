/- Part 13. -/
import Derived.Test.YtdpnocjfbplgjaaGreatPart12
import Derived.KernelRfl
set_option linter.unusedVariables false
set_option linter.unusedSimpArgs false
section
namespace Go.Px
set_option maxRecDepth 100000
theorem QD {r:Rul} {L:Rows} (h:Dh r L=0):((Ac r).2==0)=true∧A1 r=0∧L.length≤4000∧acc L L.length 0 (Ac r).1∧HG r L=(stM L L.length 0 (Ac r).1,-1,0):=by
 unfold Dh at h
 cases hc:A1 r==0 with
 | false=>rw [hc] at h;rw [show A1 r=0 from h] at hc;cases hc
 | true =>
  cases hl:iLt 4000 (L.length:Int) with
  | true=>rw [hc,hl] at h;cases h
  | false =>
   cases hr:(HG r L).2.2==0 with
   | false=>rw [hc,hl,hr] at h;cases h
   | true =>
    have hn:=(go r).trans hc
    have hrep:HG r L=Gd L L.length 0 (Ac r).1:=by unfold HG;rw [hn];rfl
    obtain ⟨k,h1,h2,h3,h4⟩:=WL L L.length 0 (Ac r).1
    have l4:L.length≤4000:=by simp only [iLt,decide_eq_false_iff_not] at hl;omega
    rcases h4 with ⟨h5,h6⟩ | ⟨h5,h6,h7⟩
    ·subst h5
     exact ⟨hn,beq_iff_eq.1 hc,l4,h2,hrep.trans h6⟩
    ·rw [hrep,h7] at hr
     rw [h6] at hr
     cases hr
end Go.Px
end
section
namespace Go.Px
set_option maxRecDepth 100000
def LZ (k s p o:Int) (y:Bool) (t f n b h v:Int):List PV:=[.int k,.int s,.int p,.int o,.bool y,.int 0,.int 0,.int t,.int f,.int n,.int 0,.int b,.bool false,.int h,.int v,.int 0,.int 0,.bool false,.int 0]
def Mf:Rows:=[LZ 1 1 0 0 true 0 0 0 0 0 0,LZ 2 0 1 2 false 0 0 0 0 0 0,LZ 8 0 2 0 false 0 0 0 0 0 0,LZ 3 0 1 0 false 0 0 0 0 0 0,LZ 4 0 0 0 false 1 1 1 0 0 0,LZ 4 0 0 0 false 1 0 0 0 1 1,LZ 2 0 2 1 false 0 0 0 0 0 0,LZ 8 0 1 0 false 0 0 0 0 0 0,LZ 3 0 2 0 false 0 0 0 0 0 0,LZ 4 0 0 0 false 2 0 0 0 0 0,LZ 4 0 0 0 false 1 1 0 4 0 0]
def Ma:Rul:=⟨⟨#[84,69,83,84]⟩,2,1,1,4,0,1,1,false,0,0,0,11,[]⟩
theorem kz:Mp 4194304 []=some [.rows Mf]:=by kernel_rfl
theorem iq:JK 4194304 []=some Ma.ls:=by kernel_rfl
theorem Od {x:Option (List PV)} {v:List PV} {f:List PV→Option (List PV)} {r:Option (List PV)} (h:x=some v) (hk:f v=r):x.bind f=r:=by rw [h];exact hk
end Go.Px
end
section
namespace Go.Px
set_option maxRecDepth 100000
structure Up (x y:Sco):Prop where
 side:y.side=x.side
 runs:x.runs≤y.runs
 wk:x.wickets≤y.wickets
 balls:x.balls≤y.balls
theorem Up.refl (x:Sco):Up x x:=⟨rfl,Int.le_refl _,Int.le_refl _,Int.le_refl _⟩
end Go.Px
end
section
namespace Go.Px
set_option maxRecDepth 100000
theorem Xc {L:Rows}:∀ k i m out,SC L (k+1) i m out=cond ((evR L (i+k)).kind==4) (SC L k i m out++[LO ((i+k:Nat):Int) (stM L k i m) (Ar ((i+k:Nat):Int) (stM L k i m) (evR L (i+k))).1 (evR L (i+k)).ball]) (SC L k i m out)
 | 0,i,m,out=>rfl
 | k+1,i,m,out=>by
  have ih:=Xc (L:=L) k (i+1) (Ar i m (evR L i)).1 (cond ((evR L i).kind==4) (out++[LO i m (Ar i m (evR L i)).1 (evR L i).ball]) out)
  rw [show i+1+k=i+(k+1) by omega] at ih
  exact ih
def SH (x:List PV):List PV:=[.int (pvI (AA x 0)),.int (pvI (AA x 1)),.int (pvI (AA x 2)),.int (pvI (AA x 3)),.int (pvI (AA x 4)),.int (pvI (AA x 5)),.int (pvI (AA x 6)),.bool (pvB (AA x 7)),.int (pvI (AA x 8)),.int (pvI (AA x 9)),.int (pvI (AA x 10)),.int (pvI (AA x 11)),.int (pvI (AA x 12)),.bool (pvB (AA x 13)),.int (pvI (AA x 14)),.int (pvI (AA x 15)),.int (pvI (AA x 16)),.int (pvI (AA x 17)),.bool (pvB (AA x 18)),.int (pvI (AA x 19)),.int (pvI (AA x 20)),.int (pvI (AA x 21)),.int (pvI (AA x 22)),.int (pvI (AA x 23)),.int (pvI (AA x 24)),.int (pvI (AA x 25)),.bool (pvB (AA x 26)),.bool (pvB (AA x 27)),.bool (pvB (AA x 28)),.bool (pvB (AA x 29)),.int (pvI (AA x 30)),.int (pvI (AA x 31))]
def fil (k:Int):Rows→Rows
 | []=>[]
 | x::D=>cond (pvI (AA x 1)==k) (SH x::fil k D) (fil k D)
theorem X7 (k:Int):∀ A B,fil k (A++B)=fil k A++fil k B
 | [],B=>rfl
 | x::A,B=>by
  show cond _ (SH x::fil k (A++B)) (fil k (A++B))=_
  rw [X7 k A B]
  show _=cond (pvI (AA x 1)==k) (SH x::fil k A) (fil k A)++fil k B
  cases pvI (AA x 1)==k<;>rfl
theorem dL (k:Int):∀ D,(fil k D).length≤D.length
 | []=>Nat.le_refl _
 | x::D=>by
  have:=dL k D
  show (cond (pvI (AA x 1)==k) (SH x::fil k D) (fil k D)).length≤D.length+1
  cases pvI (AA x 1)==k
  ·exact Nat.le_succ_of_le this
  ·exact Nat.succ_le_succ this
theorem iG {D:Rows} {i:Nat} (h:i<D.length):D.take (i+1)=D.take i++[AY D i]:=by
 rw [List.take_add_one,List.getElem?_eq_getElem h]
 unfold AY
 rw [List.getD_eq_getElem?_getD,List.getElem?_eq_getElem h]
 rfl
theorem iE {D:Rows} {i:Nat} {k:Int} (h:i<D.length):fil k (D.take (i+1))=cond (pvI (AH D i 1)==k) (fil k (D.take i)++[SH (AY D i)]) (fil k (D.take i)):=by
 rw [iG h,X7]
 show fil k (D.take i)++cond (pvI (AA (AY D i) 1)==k) [SH (AY D i)] []=_
 show _=cond (pvI (AA (AY D i) 1)==k) _ _
 cases pvI (AA (AY D i) 1)==k
 ·exact List.append_nil _
 ·rfl
theorem gw {N : Nat} {D : Rows} {k : Int} (hN : 2097152 < N) (hD : D.length ≤ 1000000) {F : (List AR → Option (List PV)) → List PV → Option (List PV)}
    (h0:∀ self,F self [.rows (fil k D),.int (D.length:Int)]=some [.rows (fil k D)])
    (h1:∀ i self out,i<D.length→out.length≤i→F self [.rows out,.int (i:Int)]=self [.rows (cond (pvI (AH D i 1)==k) (out++[SH (AY D i)]) out),.int ((i+1:Nat):Int)]):D8 F N [.rows [],.int 0]=some [.rows (fil k D)]:=by
  have:=Da (F:=F) (len:=D.length) (fun i=>[.rows (fil k (D.take i)),.int (i:Int)]) [.rows (fil k D)] (fun self=>by
    show F self [.rows (fil k (D.take D.length)),_]=_
    rw [List.take_length]
    exact h0 self) (fun i self hi=>by
    have hl:=dL k (D.take i)
    rw [List.length_take] at hl
    rw [iE hi]
    exact h1 i self _ hi (by omega)) N (by omega)
  exact this
theorem aF {d:Del} (h:(Dk d==0)=true):0≤d.sector∧d.sector≤8:=by
 unfold Dk at h
 cases h1:(iLt d.type 1||iLt 3 d.type||iLt 3 d.source||iLt 10 d.how || !btw d.sector 0 8) with
 | true=>rw [h1] at h;cases h
 | false =>
  simp only [btw,iLe,Bool.or_eq_false_iff,Bool.not_eq_false',Bool.and_eq_true,decide_eq_true_eq] at h1
  exact h1.2
structure BallF (r:Rul) (L:Rows) (a:Nat):Prop where
 one:1≤opn L a
 lnx:lnx (stM L a 0 (Ac r).1).inns=opn L a - 1
 inn:IntKind.i64.wrap (((stM L a 0 (Ac r).1).inns.length:Int) - 1)=((opn L a - 1:Nat):Int)
 ok:InnOk r (AW (stM L a 0 (Ac r).1))
 rules:(stM L a 0 (Ac r).1).rules=r
 ref:(Fy r (AW (stM L a 0 (Ac r).1)) (evR L a).ball==0)=true
 over:(AW (stM L a 0 (Ac r).1)).complete≤1000
theorem gF {r:Rul} {L:Rows} (hc:Dh r L=0) {a:Nat} (ha:a<L.length) (hk:((evR L a).kind==4)=true):BallF r L a:=by
 obtain ⟨h1,h2,h3,h4,h5⟩:=QD hc
 obtain ⟨li,so,_⟩:=Oe h1 h4 a (by omega)
 obtain ⟨_,_,hi⟩:=Oe h1 h4 L.length (Nat.le_refl _)
 have e:=beq_iff_eq.1 hk
 have one:=(hi a ha).2.play (by rw [e];rfl) (by rw [e];rfl) (by rw [e];rfl) (by rw [e];rfl)
 have a0:=UR L.length 0 _ h4 a ha
 rw [Nat.zero_add] at a0
 have q:=(Xk a0).1
 rw [q] at a0
 obtain ⟨g1,g2,g3,g4⟩:=SF a0 hk
 have sl:=so.len
 have ll:=li.len
 have lx:Px.lnx (stM L a 0 (Ac r).1).inns=opn L a - 1:=by
  unfold Px.lnx
  rw [ll,CV (by omega) (by omega)]
  omega
 have rl:=so.rules
 obtain ⟨hv,he,hn,hw,hp,hs⟩:=RG g3
 rw [rl] at hv hp
 have ok:=KO.1 hv
 have hpb:BZ r (AW (stM L a 0 (Ac r).1)) (evR L a)=Js r (AW (stM L a 0 (Ac r).1)) (evR L a).ball:=by unfold BZ;rw [e];rfl
 rw [hpb] at hp
 have cl:=fY h1 h4 a (by omega)
 have at1:=cl.at' (opn L a - 1) (by omega)
 have kx:sco (Ed (stM L a 0 (Ac r).1)).xs (opn L a - 1)=BK r.balls (AW (stM L a 0 (Ac r).1)):=by
  unfold Ed AW
  rw [rl,lx]
  exact Oc _ _ (by omega)
 rw [kx] at at1
 have bl:CF r.balls (AW (stM L a 0 (Ac r).1)).complete (AW (stM L a 0 (Ac r).1)).inover=smi L (eW r) (opn L a - 1) a:=congrArg Sco.balls at1
 have be:=(aJ ok).1
 have cb:=iZ (L:=L) (f:=eW r) (c:=1) (fun e=>by unfold eW;cases (Hr r e).counts<;>simp) (opn L a - 1) a
 have q4:=(Eh ok.code).balls
 have io:=ok.io
 have co:=ok.complete
 unfold BQ at co
 have m1:=Int.mul_le_mul_of_nonneg_left q4.1 co.1
 refine ⟨one,lx,by rw [ll,CV (by omega) (by omega)];omega,ok,rl,(YG hp).1,?_⟩
 rw [bl] at be
 omega
def NT (r:Rul) (L:Rows) (k:Nat):Nat→Rows
 | 0=>[]
 | n+1=>cond ((evR L n).kind==4&&Nat.beq (opn L (n+1)) (k+1)) (NT r L k n++[LO (n:Int) (stM L n 0 (Ac r).1) (stM L (n+1) 0 (Ac r).1) (evR L n).ball]) (NT r L k n)
theorem dB {r:Rul} {L:Rows} (hc:Dh r L=0) (k:Nat):∀ n,n≤L.length→fil (k:Int) (SC L n 0 (Ac r).1 [])=NT r L k n
 | 0,_=>rfl
 | n+1,hn=>by
  have ih:=dB hc k n (by omega)
  rw [Xc,Nat.zero_add]
  have si:=Vo (L:=L) n 0 (Ac r).1
  rw [Nat.zero_add] at si
  show _=cond ((evR L n).kind==4&&Nat.beq (opn L (n+1)) (k+1)) _ (NT r L k n)
  cases hk:(evR L n).kind==4 with
  | false=>exact ih
  | true =>
   have bf:=gF hc (show n<L.length by omega) hk
   have on:opn L (n+1)=opn L n:=gz (by rw [beq_iff_eq.1 hk];rfl)
   rw [cond_true,X7,ih,← si,on,Bool.true_and]
   show NT r L k n++cond (IntKind.i64.wrap (((stM L n 0 (Ac r).1).inns.length:Int) - 1)==(k:Int)) [_] []=_
   rw [bf.inn]
   have one:=bf.one
   by_cases e:opn L n=k+1
   ·rw [e,Ui,show ((k+1 - 1:Nat):Int)=(k:Int) by omega,beq_self_eq_true]
    rfl
   ·rw [XX e,beq_false_of_ne (by omega)]
    exact List.append_nil _
theorem eZ {r:Rul} {L:Rows} (hc:Dh r L=0) (k:Nat):fil (k:Int) (D1 r L)=NT r L k L.length:=by
 obtain ⟨h1,h2,h3,h4,h5⟩:=QD hc
 have:D1 r L=SC L L.length 0 (Ac r).1 []:=by
  unfold D1
  rw [h1]
  obtain ⟨j,j1,j2,j3,j4⟩:=WL L L.length 0 (Ac r).1
  show Ko L L.length 0 (Ac r).1 []=_
  rw [j3 []]
  rcases j4 with ⟨j5,_⟩ | ⟨j5,j6,j7⟩
  ·rw [j5]
  ·have hh:=UR L.length 0 _ h4 j j5
   rw [hh] at j6
   cases j6
 rw [this]
 exact dB hc k L.length (Nat.le_refl _)
structure RowF (r:Rul) (x:List PV):Prop where
 over:∃ o:Nat,o≤1000∧pvI (AA x 2)=(o:Int)
 sector:∃ s:Nat,s≤8∧pvI (AA x 19)=(s:Int)
 striker:1≤pvI (AA x 5)∧pvI (AA x 5)≤r.side
 cre:∃ d,pvI (AA x 20)=(AB r d).batter∧pvI (AA x 21)=(AB r d).wides∧pvI (AA x 22)=(AB r d).noballs∧pvI (AA x 23)=(AB r d).byes∧pvI (AA x 24)=(AB r d).legbyes∧pvI (AA x 25)=(AB r d).bowler
theorem kt {r:Rul} {L:Rows} (hc:Dh r L=0) {a:Nat} (ha:a<L.length) (hk:((evR L a).kind==4)=true) (t:Mat):RowF r (LO (a:Int) (stM L a 0 (Ac r).1) t (evR L a).ball):=by
 have bf:=gF hc ha hk
 obtain ⟨q1,q2,q3,q4,q5,q6⟩:=Tk bf.ref
 have ls:=aF q4
 have co:=bf.ok.complete
 unfold BQ at co
 have st:=bf.ok.st
 have over:=bf.over
 have beg:CU (AW (stM L a 0 (Ac r).1)).batters=true:=by
  obtain ⟨h1,h2,h3,h4,h5⟩:=QD hc
  have a0:=UR L.length 0 _ h4 a ha
  rw [Nat.zero_add] at a0
  have q:=(Xk a0).1
  rw [q] at a0
  obtain ⟨g1,g2,g3,g4⟩:=SF a0 hk
  exact V7 (RG g3).2.2.2.1 (by rw [beq_iff_eq.1 hk];rfl)
 have z1:=(Vv q1 beg).1
 rw [beq_eq_false_iff_ne] at z1
 refine ⟨⟨(AW (stM L a 0 (Ac r).1)).complete.toNat,by omega,?_⟩,⟨(evR L a).ball.sector.toNat,by omega,?_⟩,?_,(evR L a).ball,?_⟩
 ·show (AW (stM L a 0 (Ac r).1)).complete=_
  omega
 ·show (evR L a).ball.sector=_
  omega
 ·show 1≤(AW (stM L a 0 (Ac r).1)).striker∧(AW (stM L a 0 (Ac r).1)).striker≤r.side
  omega
 ·have rl:=bf.rules
  show (AB (stM L a 0 (Ac r).1).rules _).batter=_∧(AB (stM L a 0 (Ac r).1).rules _).wides=_∧(AB (stM L a 0 (Ac r).1).rules _).noballs=_∧(AB (stM L a 0 (Ac r).1).rules _).byes=_∧(AB (stM L a 0 (Ac r).1).rules _).legbyes=_∧(AB (stM L a 0 (Ac r).1).rules _).bowler=_
  rw [rl]
  exact ⟨rfl,rfl,rfl,rfl,rfl,rfl⟩
theorem ic {r:Rul} {L:Rows} (hc:Dh r L=0) (k:Nat):∀ n,n≤L.length→(NT r L k n).length≤n∧∀ x,x∈NT r L k n→RowF r x
 | 0,_=>⟨Nat.le_refl _,fun x hx=>absurd hx (List.not_mem_nil)⟩
 | n+1,hn=>by
  obtain ⟨i1,i2⟩:=ic hc k n (by omega)
  show (cond ((evR L n).kind==4&&Nat.beq (opn L (n+1)) (k+1)) _ (NT r L k n)).length≤n+1∧∀ x,x∈cond ((evR L n).kind==4&&Nat.beq (opn L (n+1)) (k+1)) _ (NT r L k n)→RowF r x
  cases hk:(evR L n).kind==4 with
  | false=>exact ⟨Nat.le_succ_of_le i1,i2⟩
  | true =>
   cases Nat.beq (opn L (n+1)) (k+1) with
   | false=>exact ⟨Nat.le_succ_of_le i1,i2⟩
   | true =>
    refine ⟨?_,fun x hx=>?_⟩
    ·show (NT r L k n++[_]).length≤n+1
     rw [List.length_append]
     exact Nat.succ_le_succ i1
    ·rcases List.mem_append.1 hx with hx | hx
     ·exact i2 x hx
     ·rw [List.mem_singleton.1 hx]
      exact kt hc (by omega) hk _
end Go.Px
end
section
namespace Go.Px
set_option maxRecDepth 100000
def Bs (r:Rul) (L:Rows) (k:Int):Rows×Int:=cond (!(Dh r L==0)) ([],Dh r L) (cond (iLt k 0||iLe (opn L L.length:Int) k) ([],2) (fil k (D1 r L),0))
theorem Zm {r:Rul} {L:Rows} {k:Int} (h:((Bs r L k).2==0)=true):Dh r L=0∧0≤k∧k<(opn L L.length:Int)∧(Bs r L k).1=NT r L k.toNat L.length∧(Bs r L k).2=0∧(Bs r L k).1.length≤4000∧∀ i,i<(Bs r L k).1.length→RowF r (AY (Bs r L k).1 i):=by
 unfold Bs at h ⊢
 cases hc:Dh r L==0 with
 | false=>rw [hc] at h;exact absurd (show (Dh r L==0)=true from h) (by rw [hc];decide)
 | true =>
  have c0:=beq_iff_eq.1 hc
  cases hb:iLt k 0||iLe (opn L L.length:Int) k with
  | true=>rw [hc,hb] at h;cases h
  | false =>
   simp only [Bool.or_eq_false_iff,iLt,iLe,decide_eq_false_iff_not] at hb
   obtain ⟨K,rfl⟩:∃ K:Nat,k=(K:Int):=⟨k.toNat,by omega⟩
   have e:=eZ c0 K
   obtain ⟨b1,b2⟩:=ic c0 K L.length (Nat.le_refl _)
   have l4:=(QD c0).2.2.1
   refine ⟨c0,by omega,by omega,?_,rfl,?_,fun i hi=>?_⟩
   ·exact e
   ·show (fil (K:Int) (D1 r L)).length≤4000
    rw [e]
    omega
   ·change i<(fil (K:Int) (D1 r L)).length at hi
    show RowF r (AY (fil (K:Int) (D1 r L)) i)
    rw [e] at hi ⊢
    refine b2 _ ?_
    unfold AY
    rw [List.getD_eq_getElem?_getD,List.getElem?_eq_getElem hi]
    exact List.getElem_mem hi
set_option maxHeartbeats 4000000 in
theorem Sm {N:Nat} {r1 r2 r3 r4 r5 r6 r7 r9 r10 r11 r12:Int} {r8:Bool} {r0:ByteArray} {r13:Rows} {L:Rows} {k:Int} (hN:2097152<N) (hs:r0.size≤1048576) (h13:r13.length≤1048576) (hL:L.length≤1000000):CS N [.str r0,.int r1,.int r2,.int r3,.int r4,.int r5,.int r6,.int r7,.bool r8,.int r9,.int r10,.int r11,.int r12,.rows r13,.rows L,.int k]=some [.rows (Bs (⟨r0,r1,r2,r3,r4,r5,r6,r7,r8,r9,r10,r11,r12,r13⟩:Rul) L k).1,.int (Bs (⟨r0,r1,r2,r3,r4,r5,r6,r7,r8,r9,r10,r11,r12,r13⟩:Rul) L k).2]:=by
 show G5 (std (CC N) N) (xOf _)=_
 generalize hres:(some [.rows (Bs (⟨r0,r1,r2,r3,r4,r5,r6,r7,r8,r9,r10,r11,r12,r13⟩:Rul) L k).1,.int (Bs (⟨r0,r1,r2,r3,r4,r5,r6,r7,r8,r9,r10,r11,r12,r13⟩:Rul) L k).2]:Option (List PV))=RR
 have hl:L.length≤1048576:=by omega
 simp only [G5,Pn,Nk,Q1,std,xOf,PXb,cQ hN hs h13 hl,X8 hN hl,Xi hN hs h13 hl,ah,PXc]
 subst hres;simp only [Bs]
 cases hc:Dh (⟨r0,r1,r2,r3,r4,r5,r6,r7,r8,r9,r10,r11,r12,r13⟩:Rul) L==0 with
 | false=>rfl
 | true =>
  have pl:=di (⟨r0,r1,r2,r3,r4,r5,r6,r7,r8,r9,r10,r11,r12,r13⟩:Rul) L
  cases h0:iLt k 0 with
  | true=>rfl
  | false =>
   simp only [PXb,Bool.not_true,Bool.not_false,PXp,Yd]
   cases h1:iLe (opn L L.length:Int) k with
   | true=>rfl
   | false =>
    simp only [PXb]
    generalize D1 (⟨r0,r1,r2,r3,r4,r5,r6,r7,r8,r9,r10,r11,r12,r13⟩:Rul) L=D at *
    refine Ae (gw hN (show D.length≤1000000 by omega) ?_ ?_) rfl
    ·intro self
     simp only [PXb,PXc,PXn,AG,Bc]
    ·intro i self out hi ho
     have sm:iSm ((out.length+1:Nat):Int) 216=true:=Fd (by omega) (by omega)
     simp only [PXb,PXc,PXn,AG,NJ (show i≤1099511627776 by omega),BG hi,Al hi,Nat.reduceAdd,List.length_append,List.length_cons,List.length_nil,sm]
     cases pvI (AH D i 1)==k<;>rfl
def whX (x:List PV) (p:Int) (xs:List Int):List Int:=cond (p==0||pvI (AA x 5)==p) (xs.set (pvI (AA x 19)).toNat (IntKind.i64.wrap (xs.getD (pvI (AA x 19)).toNat 0+pvI (AA x 20)))) xs
def whN (X:Rows) (p:Int):Nat→List Int
 | 0=>List.replicate 9 0
 | i+1=>whX (AY X i) p (whN X p i)
theorem YV (X:Rows) (p:Int):∀ i,(whN X p i).length=9
 | 0=>List.length_replicate
 | i+1=>by
  show (cond _ _ (whN X p i)).length=9
  cases (p==0||pvI (AA (AY X i) 5)==p)
  ·exact YV X p i
  ·exact List.length_set.trans (YV X p i)
def NB (r:Rul) (L:Rows) (k p:Int):List Int×Int:=cond (!((Bs r L k).2==0)) ([],(Bs r L k).2) (cond (iLt p 0||iLt r.side p) ([],2) (whN (Bs r L k).1 p (Bs r L k).1.length,0))
theorem jb {N : Nat} {r : Rul} {X : Rows} {p : Int} (hN : 2097152 < N) (hX : X.length ≤ 4000) (rf : ∀ i, i < X.length → RowF r (AY X i)) {F : (List AR → Option (List PV)) → List PV → Option (List PV)}
    (h0:∀ xs self,F self [.rows (A6 xs),.int (X.length:Int)]=some [.rows (A6 xs)])
    (h1:∀ (i s:Nat) self (xs:List Int),i<X.length→s≤8→xs.length=9→pvI (AH X i 19)=(s:Int)→F self [.rows (A6 xs),.int (i:Int)]=self [.rows (A6 (cond (p==0||pvI (AH X i 5)==p) (xs.set s (IntKind.i64.wrap (xs.getD s 0+pvI (AH X i 20)))) xs)),.int ((i+1:Nat):Int)]):D8 F N [.rows (A6 (List.replicate 9 0)),.int 0]=some [.rows (A6 (whN X p X.length))]:=by
  have:=Da (F:=F) (len:=X.length) (fun i=>[.rows (A6 (whN X p i)),.int (i:Int)]) [.rows (A6 (whN X p X.length))] (fun self=>h0 _ self) (fun i self hi=>by
    obtain ⟨s,s1,s2⟩:=(rf i hi).sector
    have:=h1 i s self (whN X p i) hi s1 (YV X p i) s2
    have e:whN X p (i+1)=cond (p==0||pvI (AH X i 5)==p) ((whN X p i).set s (IntKind.i64.wrap ((whN X p i).getD s 0+pvI (AH X i 20)))) (whN X p i):=by
      show whX (AY X i) p (whN X p i)=_
      unfold whX
      rw [s2]
      rfl
    rw [← e] at this
    exact this) N (by omega)
  exact this
set_option maxHeartbeats 4000000 in
theorem ZE {N:Nat} {r1 r2 r3 r4 r5 r6 r7 r9 r10 r11 r12:Int} {r8:Bool} {r0:ByteArray} {r13:Rows} {L:Rows} {k:Int} {p:Int} (hN:2097152<N) (hs:r0.size≤1048576) (h13:r13.length≤1048576) (hL:L.length≤1000000):Eo N [.str r0,.int r1,.int r2,.int r3,.int r4,.int r5,.int r6,.int r7,.bool r8,.int r9,.int r10,.int r11,.int r12,.rows r13,.rows L,.int k,.int p]=some [.rows (A6 (NB (⟨r0,r1,r2,r3,r4,r5,r6,r7,r8,r9,r10,r11,r12,r13⟩:Rul) L k p).1),.int (NB (⟨r0,r1,r2,r3,r4,r5,r6,r7,r8,r9,r10,r11,r12,r13⟩:Rul) L k p).2]:=by
 show JZ (std (Kq N) N) (xOf _)=_
 generalize hres:(some [.rows (A6 (NB (⟨r0,r1,r2,r3,r4,r5,r6,r7,r8,r9,r10,r11,r12,r13⟩:Rul) L k p).1),.int (NB (⟨r0,r1,r2,r3,r4,r5,r6,r7,r8,r9,r10,r11,r12,r13⟩:Rul) L k p).2]:Option (List PV))=RR
 simp only [JZ,OP,std,xOf,PXb,Sm hN hs h13 hL]
 subst hres;simp only [NB]
 cases hb:(Bs (⟨r0,r1,r2,r3,r4,r5,r6,r7,r8,r9,r10,r11,r12,r13⟩:Rul) L k).2==0 with
 | false=>rfl
 | true =>
  obtain ⟨b1,b2,b3,b4,b5,b6,b7⟩:=Zm hb
  generalize (Bs (⟨r0,r1,r2,r3,r4,r5,r6,r7,r8,r9,r10,r11,r12,r13⟩:Rul) L k).1=X at *
  have s9:iSm 9 8=true:=by decide
  simp only [PXb,Bool.not_true]
  cases iLt p 0||iLt r1 p with
  | true=>rfl
  | false =>
   have rz:List.replicate (Int.toNat 9) [PV.int 0]=A6 (List.replicate 9 0):=rfl
   simp only [PXb,s9,rz]
   refine Ae (jb hN b6 b7 ?_ ?_) rfl
   ·intro xs self
    simp only [PXb,PXc,PXn,AG,Bc]
   ·intro i s self xs hi h8 hx he
    have i9:iIn (s:Int) (xs.length:Int)=true:=Al (by omega)
    simp only [PXb,PXc,PXn,AG,NJ (show i≤1099511627776 by omega),BG hi,Al hi,he,MA,i9,Int.toNat_natCast,Bv,kU,Ze]
    cases (p==0||atI X i 5==p)<;>rfl
def Ou (xs:List Int) (n:Nat):List Int:=xs++List.replicate (n - xs.length) 0
def gl (x:List PV):Cre:=⟨pvI (AA x 20),pvI (AA x 21),pvI (AA x 22),pvI (AA x 23),pvI (AA x 24),pvI (AA x 25),pvB (AA x 26),pvB (AA x 27),pvB (AA x 28),pvB (AA x 29)⟩
def ovX (x:List PV) (xs:List Int):List Int:=(Ou xs ((pvI (AA x 2)).toNat+1)).set (pvI (AA x 2)).toNat (IntKind.i64.wrap ((Ou xs ((pvI (AA x 2)).toNat+1)).getD (pvI (AA x 2)).toNat 0+Cy (gl x)))
def ovN (X:Rows):Nat→List Int
 | 0=>[]
 | i+1=>ovX (AY X i) (ovN X i)
theorem dQ (xs:List Int) (n:Nat):(Ou xs n).length=max xs.length n:=by
 unfold Ou
 rw [List.length_append,List.length_replicate]
 omega
theorem db {r:Rul} {X:Rows} (rf:∀ i,i<X.length→RowF r (AY X i)):∀ i,i≤X.length→(ovN X i).length≤1001
 | 0,_=>Nat.zero_le _
 | i+1,hi=>by
  have ih:=db rf i (by omega)
  obtain ⟨o,o1,o2⟩:=(rf i (by omega)).over
  show (ovX (AY X i) (ovN X i)).length≤1001
  unfold ovX
  rw [List.length_set,dQ,o2]
  omega
theorem iJ {N : Nat} {xs : List Int} {o : Nat} (hN : 2097152 < N) (ho : o ≤ 1000) (hx : xs.length ≤ 1001) {F : (List AR → Option (List PV)) → List PV → Option (List PV)}
    (h:∀ (ys:List Int) self,ys.length≤1001→F self [.rows (A6 ys)]=cond (iLe (ys.length:Int) (o:Int)) (self [.rows (A6 (ys++[0]))]) (some [.rows (A6 ys)])):D8 F N [.rows (A6 xs)]=some [.rows (A6 (Ou xs (o+1)))]:=by
  have:=Da (F:=F) (len:=o+1 - xs.length) (fun j=>[.rows (A6 (xs++List.replicate j 0))]) [.rows (A6 (Ou xs (o+1)))] (fun self=>by
    have:=h (xs++List.replicate (o+1 - xs.length) 0) self (by rw [List.length_append,List.length_replicate];omega)
    rw [List.length_append,List.length_replicate,show iLe ((xs.length+(o+1 - xs.length):Nat):Int) (o:Int)=false by simp only [iLe,decide_eq_false_iff_not];omega] at this
    exact this) (fun j self hj=>by
    have:=h (xs++List.replicate j 0) self (by rw [List.length_append,List.length_replicate];omega)
    rw [List.length_append,List.length_replicate,show iLe ((xs.length+j:Nat):Int) (o:Int)=true by simp only [iLe,decide_eq_true_eq];omega,List.append_assoc,← List.replicate_succ'] at this
    exact this) N (by omega)
  have e:xs++List.replicate 0 (0:Int)=xs:=List.append_nil _
  rw [e] at this
  exact this
def My (r:Rul) (L:Rows) (k:Int):List Int×Int:=cond (!((Bs r L k).2==0)) ([],(Bs r L k).2) (ovN (Bs r L k).1 (Bs r L k).1.length,0)
theorem ir {N : Nat} {r : Rul} {X : Rows} (hN : 2097152 < N) (hX : X.length ≤ 4000) (rf : ∀ i, i < X.length → RowF r (AY X i)) {F : (List AR → Option (List PV)) → List PV → Option (List PV)}
    (h0:∀ xs self,F self [.rows (A6 xs),.int (X.length:Int)]=some [.rows (A6 xs)])
    (h1:∀ (i o:Nat) self (xs:List Int),i<X.length→o≤1000→xs.length≤1001→pvI (AH X i 2)=(o:Int)→F self [.rows (A6 xs),.int (i:Int)]=self [.rows (A6 ((Ou xs (o+1)).set o (IntKind.i64.wrap ((Ou xs (o+1)).getD o 0+Cy (gl (AY X i)))))),.int ((i+1:Nat):Int)]):D8 F N [.rows [],.int 0]=some [.rows (A6 (ovN X X.length))]:=by
  have:=Da (F:=F) (len:=X.length) (fun i=>[.rows (A6 (ovN X i)),.int (i:Int)]) [.rows (A6 (ovN X X.length))] (fun self=>h0 _ self) (fun i self hi=>by
    obtain ⟨o,o1,o2⟩:=(rf i hi).over
    have:=h1 i o self (ovN X i) hi o1 (db rf i (by omega)) o2
    have e:ovN X (i+1)=(Ou (ovN X i) (o+1)).set o (IntKind.i64.wrap ((Ou (ovN X i) (o+1)).getD o 0+Cy (gl (AY X i)))):=by
      show ovX (AY X i) (ovN X i)=_
      unfold ovX
      rw [o2]
      rfl
    rw [← e] at this
    exact this) N (by omega)
  exact this
theorem lA (ys:List Int) (v:Int):A6 ys++[[.int v]]=A6 (ys++[v]):=(List.map_append (f:=fun x:Int=>[PV.int x]) (l₁:=ys) (l₂:=[v])).symm
set_option maxHeartbeats 4000000 in
theorem Xx {N:Nat} {r1 r2 r3 r4 r5 r6 r7 r9 r10 r11 r12:Int} {r8:Bool} {r0:ByteArray} {r13:Rows} {L:Rows} {k:Int} (hN:2097152<N) (hs:r0.size≤1048576) (h13:r13.length≤1048576) (hL:L.length≤1000000):D2 N [.str r0,.int r1,.int r2,.int r3,.int r4,.int r5,.int r6,.int r7,.bool r8,.int r9,.int r10,.int r11,.int r12,.rows r13,.rows L,.int k]=some [.rows (A6 (My (⟨r0,r1,r2,r3,r4,r5,r6,r7,r8,r9,r10,r11,r12,r13⟩:Rul) L k).1),.int (My (⟨r0,r1,r2,r3,r4,r5,r6,r7,r8,r9,r10,r11,r12,r13⟩:Rul) L k).2]:=by
 show IW (std (Gh N) N) (xOf _)=_
 generalize hres:(some [.rows (A6 (My (⟨r0,r1,r2,r3,r4,r5,r6,r7,r8,r9,r10,r11,r12,r13⟩:Rul) L k).1),.int (My (⟨r0,r1,r2,r3,r4,r5,r6,r7,r8,r9,r10,r11,r12,r13⟩:Rul) L k).2]:Option (List PV))=RR
 simp only [IW,NO,FY,std,xOf,PXb,Sm hN hs h13 hL]
 subst hres;simp only [My]
 cases hb:(Bs (⟨r0,r1,r2,r3,r4,r5,r6,r7,r8,r9,r10,r11,r12,r13⟩:Rul) L k).2==0 with
 | false=>rfl
 | true =>
  obtain ⟨b1,b2,b3,b4,b5,b6,b7⟩:=Zm hb
  generalize (Bs (⟨r0,r1,r2,r3,r4,r5,r6,r7,r8,r9,r10,r11,r12,r13⟩:Rul) L k).1=X at *
  simp only [PXb,Bool.not_true]
  refine Ae (ir hN b6 b7 ?_ ?_) rfl
  ·intro xs self
   simp only [PXb,PXc,PXn,AG,Bc]
  ·intro i o self xs hi h8 hx he
   simp only [PXb,PXc,PXn,AG,BG hi,Al hi,he]
   refine Ae (iJ hN h8 hx ?_) ?_
   ·intro ys self hy
    have sm:iSm ((ys.length+1:Nat):Int) 8=true:=Fd (by omega) (by omega)
    simp only [PXb,PXc,PXn,AG,MA,lA,List.length_append,List.length_cons,List.length_nil,sm,Nat.reduceAdd]
   ·have io:iIn (o:Int) ((Ou xs (o+1)).length:Int)=true:=Al (by rw [dQ];omega)
    simp only [PXb,PXc,PXn,AG,PXc,NJ (show i≤1099511627776 by omega),MA,io,FY,PA,Nat.reduceAdd,Int.toNat_natCast,Bv,kU,Ze]
    rfl
end Go.Px
end
section
namespace Go.Px
set_option maxRecDepth 100000
def EO (L:Rows):Rows×Int:=cond (!((L.length:Int)==9)) ([],1) (A6 [atI L 0 0,atI L 8 0,atI L 7 0,atI L 6 0,atI L 5 0,atI L 4 0,atI L 3 0,atI L 2 0,atI L 1 0],0)
theorem lD {L:Rows} (h:L.length=9):∃ a b c d e f g h i,L=[a,b,c,d,e,f,g,h,i]:=by
 match L,h with
 | [a,b,c,d,e,f,g,h,i],_=>exact ⟨a,b,c,d,e,f,g,h,i,rfl⟩
def miN (X:Rows):Nat→List Int
 | 0=>[atI X 0 0,0,0,0,0,0,0,0,0]
 | j+1=>(miN X j).set (8 - j) (atI X (j+1) 0)
theorem X0 (X:Rows):∀ j,(miN X j).length=9
 | 0=>rfl
 | j+1=>by
  show ((miN X j).set _ _).length=_
  rw [List.length_set,X0 X j]
def miR (X:Rows):Nat→Rows
 | 0=>[[.int (atI X 0 0)]]
 | j+1=>miR X j++[[.int (atI X (8 - j) 0)]]
theorem dV (X:Rows):∀ j,(miR X j).length=j+1
 | 0=>rfl
 | j+1=>by
  show (miR X j++_).length=_
  rw [List.length_append,dV X j]
  rfl
set_option maxHeartbeats 4000000 in
theorem RB {N:Nat} {L:Rows} (hN:2097152<N):CY N [.rows L]=some [.rows (EO L).1,.int (EO L).2]:=by
 show IV (std (PZ N) N) (xOf _)=_
 simp only [IV,std,xOf,PXb]
 unfold EO
 cases h9:(L.length:Int)==9 with
 | false=>rfl
 | true =>
  have e9:(L.length:Int)=9:=beq_iff_eq.1 h9
  have s9:iSm 9 8=true:=by decide
  have i0:iIn 0 9=true:=by decide
  have n9:L.length=9:=by omega
  have c9:((9:Nat):Int)=9:=rfl
  have z0:(0:Int).toNat=0:=rfl
  have st:(List.replicate 9 (0:Int)).set 0 (pvI (AH L 0 0))=miN L 0:=rfl
  simp only [PXb,n9,c9,s9,i0,ka,z0,Ze,st,MA,X0,List.length_replicate,Bool.not_true,beq_self_eq_true]
  refine Ae (Da (len:=8) (fun j=>[.rows (A6 (miN L j)),.int ((j+1:Nat):Int)]) [.rows (A6 (miN L 8))] ?_ ?_ N (by omega)) rfl
  ·intro self
   rfl
  ·intro j self hj
   have w1:IntKind.i64.wrap (((j+1:Nat):Int)+1)=((j+1+1:Nat):Int):=NJ (by omega)
   have w2:IntKind.i64.wrap (9 - ((j+1:Nat):Int))=((8 - j:Nat):Int):=by rw [CV (by omega) (by omega)];omega
   have l1:iLe ((j+1:Nat):Int) 8=true:=by simp only [iLe,decide_eq_true_eq];omega
   have i1:iIn ((j+1:Nat):Int) 9=true:=by simp only [iIn,decide_eq_true_eq];omega
   have i2:iIn ((8 - j:Nat):Int) ((A6 (miN L j)).length:Int)=true:=by rw [MA,X0];simp only [iIn,decide_eq_true_eq];omega
   simp only [PXb,PXc,PXn,AG,w1,w2,l1,i1,i2,Int.toNat_natCast,Ze,miN,Bv]
set_option maxHeartbeats 4000000 in
theorem aP {N:Nat} {L:Rows} (hN:2097152<N):Hu N [.rows L]=some [.rows (EO L).1,.int (EO L).2]:=by
 show LH (std (RK N) N) (xOf _)=_
 simp only [LH,std,xOf,PXb]
 unfold EO
 cases h9:(L.length:Int)==9 with
 | false=>rfl
 | true =>
  have e9:(L.length:Int)=9:=beq_iff_eq.1 h9
  have i0:iIn 0 9=true:=by decide
  simp only [PXb,e9,i0,Bool.not_true,beq_self_eq_true]
  refine Ae (Da (len:=8) (fun j=>[.rows (miR L j),.int ((8 - j:Nat):Int)]) [.rows (miR L 8)] ?_ ?_ N (by omega)) rfl
  ·intro self
   rfl
  ·intro j self hj
   have w1:IntKind.i64.wrap (((8 - j:Nat):Int) - 1)=((8 - (j+1):Nat):Int):=by rw [CV (by omega) (by omega)];omega
   have l1:iLe 1 ((8 - j:Nat):Int)=true:=by simp only [iLe,decide_eq_true_eq];omega
   have i1:iIn ((8 - j:Nat):Int) 9=true:=by simp only [iIn,decide_eq_true_eq];omega
   have sm:iSm ((j+1+1:Nat):Int) 8=true:=Fd (by omega) (by omega)
   simp only [PXb,PXc,PXn,AG,w1,l1,i1,Int.toNat_natCast,miR,List.length_append,List.length_cons,List.length_nil,dV,Nat.reduceAdd,Nat.zero_add,sm,Bv]
theorem dE (L:Rows):(EO L).1.length≤9:=by
 unfold EO
 cases (L.length:Int)==9 with
 | false=>exact Nat.zero_le _
 | true=>exact Nat.le_refl _
theorem ii {L:Rows} (h:(EO L).2=0):(EO (EO L).1).2=0∧eqL (EO (EO L).1).1 L=true:=by
 unfold EO at h
 cases h9:(L.length:Int)==9 with
 | false=>rw [h9] at h;cases h
 | true =>
  clear h
  obtain ⟨a,b,c,d,e,f,g,h,i,rfl⟩:=lD (L:=L) (by have:=beq_iff_eq.1 h9;omega)
  refine ⟨rfl,?_⟩
  unfold eqL
  have:BI (fun j => !(atI (EO (EO [a,b,c,d,e,f,g,h,i]).1).1 j 0==atI [a,b,c,d,e,f,g,h,i] j 0)) (EO (EO [a,b,c,d,e,f,g,h,i]).1).1.length 0=false:=Eu.2 (fun j _ hj=>by
   have hj:j<9:=hj
   match j,hj with
   | 0,_=>exact congrArg Bool.not (beq_self_eq_true (atI [a,b,c,d,e,f,g,h,i] 0 0))
   | 1,_=>exact congrArg Bool.not (beq_self_eq_true (atI [a,b,c,d,e,f,g,h,i] 1 0))
   | 2,_=>exact congrArg Bool.not (beq_self_eq_true (atI [a,b,c,d,e,f,g,h,i] 2 0))
   | 3,_=>exact congrArg Bool.not (beq_self_eq_true (atI [a,b,c,d,e,f,g,h,i] 3 0))
   | 4,_=>exact congrArg Bool.not (beq_self_eq_true (atI [a,b,c,d,e,f,g,h,i] 4 0))
   | 5,_=>exact congrArg Bool.not (beq_self_eq_true (atI [a,b,c,d,e,f,g,h,i] 5 0))
   | 6,_=>exact congrArg Bool.not (beq_self_eq_true (atI [a,b,c,d,e,f,g,h,i] 6 0))
   | 7,_=>exact congrArg Bool.not (beq_self_eq_true (atI [a,b,c,d,e,f,g,h,i] 7 0))
   | 8,_=>exact congrArg Bool.not (beq_self_eq_true (atI [a,b,c,d,e,f,g,h,i] 8 0)))
  rw [this]
  rfl
theorem kF:My Ma Mf 1=([5],0):=by kernel_rfl
theorem ja:NB Ma Mf 1 2=([4,0,0,0,0,0,0,0,0],0):=by kernel_rfl
set_option maxHeartbeats 2000000 in
theorem cn:HJ 4194304 []=some [.bool true]:=by
 have hs:Ma.name.size≤1048576:=by decide
 have hl:Mf.length≤1000000:=by decide
 have hN:2097152<4194304:=by omega
 have k1:D2 4194304 (Ma.ls++[.rows Mf,.int 1])=some [.rows (A6 (My Ma Mf 1).1),.int (My Ma Mf 1).2]:=Xx hN hs (Nat.zero_le _) hl
 have k2:Eo 4194304 (Ma.ls++[.rows Mf,.int 1,.int 2])=some [.rows (A6 (NB Ma Mf 1 2).1),.int (NB Ma Mf 1 2).2]:=ZE hN hs (Nat.zero_le _) hl
 have k3:=RB (L:=[[.int 9],[.int 1],[.int 2],[.int 3],[.int 4],[.int 5],[.int 6],[.int 7],[.int 8]]) hN
 rw [kF] at k1
 rw [ja] at k2
 show Mh (std (Co 4194304) 4194304) (xOf [])=_
 simp only [Mh,Po,MV,PO,PF,RY,TI,std,xOf,PXb,kz,iq]
 refine Od k1 ?_
 refine Od k2 ?_
 refine Od k3 ?_
 refine Od (DK (L:=A6 [5]) (M:=[[.int 5]]) hN (by decide)) ?_
 refine Od (DK (L:=A6 [4,0,0,0,0,0,0,0,0]) (M:=[[.int 4],[.int 0],[.int 0],[.int 0],[.int 0],[.int 0],[.int 0],[.int 0],[.int 0]]) hN (by decide)) ?_
 refine Od (DK (L:=A6 [9,8,7,6,5,4,3,2,1]) (M:=[[.int 9],[.int 8],[.int 7],[.int 6],[.int 5],[.int 4],[.int 3],[.int 2],[.int 1]]) hN (by decide)) ?_
 rfl
set_option maxHeartbeats 4000000 in
theorem UX {N:Nat} {L:Rows} (ha:HJ N []=some [.bool true]) (hN:2097152<N):FQ N [.rows L]=some [.bool true]:=by
 show FR (std (B5 N) N) (xOf _)=_
 simp only [FR,ME,IY,Kb,Lh,std,xOf,PXb,PXc,PXn,PXm,Nat.reduceAdd,Int.reduceBEq,ha,ku (show (0:Int)≤12 by omega),RB hN,aP hN]
 have ce:List.drop (Int.toNat 0) (List.take (cond (iLt 12 (L.length:Int)) 12 (L.length:Int)).toNat L)=cut L 12:=rfl
 rw [ce]
 generalize cut L 12=X at *
 have l1:=dE X
 have l2:=dE (EO X).1
 simp only [DK hN (show (EO X).1.length≤1048576 by omega),DK hN (show (EO (EO X).1).1.length≤1048576 by omega),PXb,PXc,PXn,PXm,Nat.reduceAdd,Int.reduceBEq,gn,beq_self_eq_true]
 cases h:(EO X).2==0 with
 | false=>rfl
 | true =>
  obtain ⟨m1,m2⟩:=ii (beq_iff_eq.1 h)
  rw [m1,m2]
  rfl
end Go.Px
end
