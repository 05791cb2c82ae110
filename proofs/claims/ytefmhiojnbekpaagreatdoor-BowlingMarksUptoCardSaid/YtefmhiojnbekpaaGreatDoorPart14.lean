/- Part 14. -/
import Derived.Test.YtefmhiojnbekpaaGreatDoorPart13
import Derived.KernelRfl
import Derived.Test.YtefmhiojnbekpaaGreatDoorPart08
set_option linter.unusedVariables false
set_option linter.unusedSimpArgs false
section
namespace Go.Px
set_option maxRecDepth 100000
def sdT (L:Rows):Nat→Int:=Tg (Fu L) (CB L L.length)
structure InLog (L:Rows):Prop where
 len:L.length≤4000
 pen:∀ j,j<L.length→((evR L j).kind==13)=true→1≤opn L (j+1)
end Go.Px
end
section
namespace Go.Px
set_option maxRecDepth 100000
theorem Nu {r:Rul} {L:Rows} (h:CM r L=0):((Al r).2==0)=true∧BA r=0∧L.length≤4000∧acc L L.length 0 (Al r).1∧Hi r L=(stM L L.length 0 (Al r).1,-1,0):=by
 unfold CM at h;cases hc:BA r==0 with
 | false=>rw [hc] at h;rw [show BA r=0 from h] at hc;cases hc
 | true =>
  cases hl:iLt 4000 (L.length:Int) with
  | true=>rw [hc,hl] at h;cases h
  | false =>
   cases hr:(Hi r L).2.2==0 with
   | false=>rw [hc,hl,hr] at h;cases h
   | true =>
    have hn:=(nW r).trans hc;have hrep:Hi r L=HH L L.length 0 (Al r).1:=by unfold Hi;rw [hn];rfl
    obtain ⟨k,h1,h2,h3,h4⟩:=To L L.length 0 (Al r).1;have l4:L.length≤4000:=by simp only [iLt,decide_eq_false_iff_not] at hl;omega
    rcases h4 with ⟨h5,h6⟩ | ⟨h5,h6,h7⟩
    ·subst h5;exact ⟨hn,beq_iff_eq.1 hc,l4,h2,hrep.trans h6⟩
    ·rw [hrep,h7] at hr;rw [h6] at hr;cases hr
theorem aM {r:Rul} {L:Rows} (h:CM r L=0) {j:Nat} (hj:j<opn L L.length):j≤3∧(Fu L=1∨Fu L=2)∧sdT L j=sdF L L.length j∧JE (Fu L) (CB L L.length) j=sdF L L.length j:=by
 obtain ⟨h1,h2,h3,h4,h5⟩:=Nu h;obtain ⟨_,_,h6⟩:=NI h1 h4 L.length (Nat.le_refl _);obtain ⟨a,p1,p2,p3,p4,p5⟩:=mw (L:=L) (by omega) L.length (Nat.le_refl _) j hj;obtain ⟨q1,v,q2,q3⟩:=(h6 a p2).2.two p4;rw [p3] at q1;have f:=SK q2 (show a≤L.length by omega);have fs:Fu L=v:=by unfold Fu;rw [f];rfl
 have oo:BD (BD (Fu L))=Fu L:=by rw [fs];rcases q3 with e | e<;>rw [e]<;>decide
 have un:=pj (Fu L) (CB L L.length) q1;refine ⟨q1,by rw [fs];exact q3,?_,un⟩;unfold sdT;rw [jd oo];exact un
end Go.Px
end
section
namespace Go.Px
set_option maxRecDepth 100000
theorem mo {N:Nat} {L:Rows}  : OM N [.rows L]=some [.rows (cut L 60)]:=by
 show OG (std (J9 N) N) (xOf _)=_;simp only [OG,q9,std,xOf,PXb,PXc,PXn,PXm,Nat.reduceAdd,Int.reduceBEq,sF (show (0:Int)≤60 by omega)];rfl
def Lx (k s p o:Int) (y:Bool) (t f n b h v:Int):List PV:=[.int k,.int s,.int p,.int o,.bool y,.int 0,.int 0,.int t,.int f,.int n,.int 0,.int b,.bool false,.int h,.int v,.int 0,.int 0,.bool false,.int 0]
def Wv:Rows:=[Lx 1 1 0 0 true 0 0 0 0 0 0,Lx 2 0 1 2 false 0 0 0 0 0 0,Lx 8 0 2 0 false 0 0 0 0 0 0,Lx 3 0 1 0 false 0 0 0 0 0 0,Lx 4 0 0 0 false 1 1 1 0 0 0,Lx 4 0 0 0 false 1 0 0 0 1 1,Lx 2 0 2 1 false 0 0 0 0 0 0,Lx 8 0 1 0 false 0 0 0 0 0 0,Lx 3 0 2 0 false 0 0 0 0 0 0,Lx 4 0 0 0 false 2 0 0 0 0 0,Lx 4 0 0 0 false 1 1 0 4 0 0]
def W1:Rul:=⟨⟨#[84,69,83,84]⟩,2,1,1,4,0,1,1,false,0,0,0,11,[]⟩
theorem ru:N5 4194304 []=some [.rows Wv]:=by kernel_rfl
theorem qN:KE 4194304 []=some W1.ls:=by kernel_rfl
theorem JU {x:Option (List PV)} {v:List PV} {f:List PV→Option (List PV)} {r:Option (List PV)} (h:x=some v) (hk:f v=r):x.bind f=r:=by rw [h];exact hk
end Go.Px
end
section
namespace Go.Px
set_option maxRecDepth 100000
structure Up (x y:Sco):Prop where
 side:y.side=x.side
 runs:x.runs≤y.runs
 wk:x.wickets≤y.wickets
 balls:x.balls≤y.balls
theorem Up.refl (x:Sco):Up x x:=⟨rfl,Int.le_refl _,Int.le_refl _,Int.le_refl _⟩
end Go.Px
end
section
namespace Go.Px
set_option maxRecDepth 100000
theorem Tb {L:Rows}:∀ k i m out,IG L (k+1) i m out=cond ((evR L (i+k)).kind==4) (IG L k i m out++[MH ((i+k:Nat):Int) (stM L k i m) (As ((i+k:Nat):Int) (stM L k i m) (evR L (i+k))).1 (evR L (i+k)).ball]) (IG L k i m out)
 | 0,i,m,out=>rfl
 | k+1,i,m,out=>by
  have ih:=Tb (L:=L) k (i+1) (As i m (evR L i)).1 (cond ((evR L i).kind==4) (out++[MH i m (As i m (evR L i)).1 (evR L i).ball]) out);rw [show i+1+k=i+(k+1) by omega] at ih;exact ih
def E2 (x:List PV):List PV:=[.int (pvI (AA x 0)),.int (pvI (AA x 1)),.int (pvI (AA x 2)),.int (pvI (AA x 3)),.int (pvI (AA x 4)),.int (pvI (AA x 5)),.int (pvI (AA x 6)),.bool (pvB (AA x 7)),.int (pvI (AA x 8)),.int (pvI (AA x 9)),.int (pvI (AA x 10)),.int (pvI (AA x 11)),.int (pvI (AA x 12)),.bool (pvB (AA x 13)),.int (pvI (AA x 14)),.int (pvI (AA x 15)),.int (pvI (AA x 16)),.int (pvI (AA x 17)),.bool (pvB (AA x 18)),.int (pvI (AA x 19)),.int (pvI (AA x 20)),.int (pvI (AA x 21)),.int (pvI (AA x 22)),.int (pvI (AA x 23)),.int (pvI (AA x 24)),.int (pvI (AA x 25)),.bool (pvB (AA x 26)),.bool (pvB (AA x 27)),.bool (pvB (AA x 28)),.bool (pvB (AA x 29)),.int (pvI (AA x 30)),.int (pvI (AA x 31))]
def fil (k:Int):Rows→Rows
 | []=>[]
 | x::D=>cond (pvI (AA x 1)==k) (E2 x::fil k D) (fil k D)
theorem jh (k:Int):∀ A B,fil k (A++B)=fil k A++fil k B
 | [],B=>rfl
 | x::A,B=>by
  show cond _ (E2 x::fil k (A++B)) (fil k (A++B))=_;rw [jh k A B];show _=cond (pvI (AA x 1)==k) (E2 x::fil k A) (fil k A)++fil k B;cases pvI (AA x 1)==k<;>rfl
theorem jq (k:Int):∀ D,(fil k D).length≤D.length
 | []=>Nat.le_refl _
 | x::D=>by
  have:=jq k D;show (cond (pvI (AA x 1)==k) (E2 x::fil k D) (fil k D)).length≤D.length+1;cases pvI (AA x 1)==k
  ·exact Nat.le_succ_of_le this
  ·exact Nat.succ_le_succ this
theorem oc {D:Rows} {i:Nat} (h:i<D.length):D.take (i+1)=D.take i++[AB D i]:=by
 rw [List.take_add_one,List.getElem?_eq_getElem h];unfold AB;rw [List.getD_eq_getElem?_getD,List.getElem?_eq_getElem h];rfl
theorem gS {D:Rows} {i:Nat} {k:Int} (h:i<D.length):fil k (D.take (i+1))=cond (pvI (AE D i 1)==k) (fil k (D.take i)++[E2 (AB D i)]) (fil k (D.take i)):=by
 rw [oc h,jh];show fil k (D.take i)++cond (pvI (AA (AB D i) 1)==k) [E2 (AB D i)] []=_;show _=cond (pvI (AA (AB D i) 1)==k) _ _;cases pvI (AA (AB D i) 1)==k
 ·exact List.append_nil _
 ·rfl
structure BallF (r:Rul) (L:Rows) (a:Nat):Prop where
 one:1≤opn L a
 lnx:lnx (stM L a 0 (Al r).1).inns=opn L a - 1
 inn:IntKind.i64.wrap (((stM L a 0 (Al r).1).inns.length:Int) - 1)=((opn L a - 1:Nat):Int)
 ok:InnOk r (Af (stM L a 0 (Al r).1))
 rules:(stM L a 0 (Al r).1).rules=r
 ref:(GP r (Af (stM L a 0 (Al r).1)) (evR L a).ball==0)=true
 over:(Af (stM L a 0 (Al r).1)).complete≤1000
theorem rG {r:Rul} {L:Rows} (hc:CM r L=0) {a:Nat} (ha:a<L.length) (hk:((evR L a).kind==4)=true):BallF r L a:=by
 obtain ⟨h1,h2,h3,h4,h5⟩:=Nu hc;obtain ⟨li,so,_⟩:=NI h1 h4 a (by omega);obtain ⟨_,_,hi⟩:=NI h1 h4 L.length (Nat.le_refl _);have e:=beq_iff_eq.1 hk;have one:=(hi a ha).2.play (by rw [e];rfl) (by rw [e];rfl) (by rw [e];rfl) (by rw [e];rfl);have a0:=Vq L.length 0 _ h4 a ha;rw [Nat.zero_add] at a0;have q:=(fo a0).1;rw [q] at a0;obtain ⟨g1,g2,g3,g4⟩:=Zg a0 hk;have sl:=so.len;have ll:=li.len;have lx:Px.lnx (stM L a 0 (Al r).1).inns=opn L a - 1:=by
  unfold Px.lnx;rw [ll,CG (by omega) (by omega)];omega
 have rl:=so.rules;obtain ⟨hv,he,hn,hw,hp,hs⟩:=W9 g3;rw [rl] at hv hp;have ok:=LM.1 hv;have hpb:Bm r (Af (stM L a 0 (Al r).1)) (evR L a)=KX r (Af (stM L a 0 (Al r).1)) (evR L a).ball:=by unfold Bm;rw [e];rfl
 rw [hpb] at hp;have cl:=mb h1 h4 a (by omega);have at1:=cl.at' (opn L a - 1) (by omega);have kx:sco (E8 (stM L a 0 (Al r).1)).xs (opn L a - 1)=BU r.balls (Af (stM L a 0 (Al r).1)):=by
  unfold E8 Af;rw [rl,lx];exact Po _ _ (by omega)
 rw [kx] at at1;have bl:CV r.balls (Af (stM L a 0 (Al r).1)).complete (Af (stM L a 0 (Al r).1)).inover=smi L (lN r) (opn L a - 1) a:=congrArg Sco.balls at1;have be:=(gY ok).1;have cb:=pO (L:=L) (f:=lN r) (c:=1) (fun e=>by unfold lN;cases (IV r e).counts<;>simp) (opn L a - 1) a;have q4:=(FF ok.code).balls;have io:=ok.io;have co:=ok.complete;unfold Be at co;have m1:=Int.mul_le_mul_of_nonneg_left q4.1 co.1;refine ⟨one,lx,by rw [ll,CG (by omega) (by omega)];omega,ok,rl,(cT hp).1,?_⟩;rw [bl] at be;omega
structure RowF (r:Rul) (x:List PV):Prop where
 over:∃ o:Nat,o≤1000∧pvI (AA x 2)=(o:Int)
 sector:∃ s:Nat,s≤8∧pvI (AA x 19)=(s:Int)
 striker:1≤pvI (AA x 5)∧pvI (AA x 5)≤r.side
 cre:∃ d,pvI (AA x 20)=(AF r d).batter∧pvI (AA x 21)=(AF r d).wides∧pvI (AA x 22)=(AF r d).noballs∧pvI (AA x 23)=(AF r d).byes∧pvI (AA x 24)=(AF r d).legbyes∧pvI (AA x 25)=(AF r d).bowler
end Go.Px
end
section
namespace Go.Px
set_option maxRecDepth 100000
def Sx (r:Rul) (L:Rows) (k:Int):Rows×Int:=cond (!(CM r L==0)) ([],CM r L) (cond (iLt k 0||iLe (opn L L.length:Int) k) ([],2) (fil k (Bi r L),0))
end Go.Px
end
section
namespace Go.Px
set_option maxRecDepth 100000
theorem WX {F : (List AX → Option (List PV)) → List PV → Option (List PV)} {len p : Nat} (enc : Nat → List AX) (stop fin : List PV) (hp : p ≤ len)
    (h0:p=len→∀ self,F self ((enc len).map Leaf.pv)=some fin) (h1:∀ i self,i<p→F self ((enc i).map Leaf.pv)=self (enc (i+1)))
    (h2:p<len→∀ self,F self ((enc p).map Leaf.pv)=some stop) (n:Nat) (hn:len<n) :
    Dy F n ((enc 0).map Leaf.pv)=some (cond (Nat.blt p len) stop fin):=by
  have main:∀ (k i n:Nat),i+k=p→k<n→Dy F n ((enc i).map Leaf.pv)=some (cond (Nat.blt p len) stop fin):=by
    intro k
    induction k with
    | zero =>
      intro i n hk hn;obtain ⟨n,rfl⟩:∃ m,n=m+1:=⟨n - 1,by omega⟩;obtain rfl:i=p:=by omega
      show F _ _=_
      rcases Nat.lt_or_ge i len with h | h
      · rw [h2 h,show Nat.blt i len=true from Nat.ble_eq_true_of_le h];rfl
      · obtain rfl:i=len:=by omega
        rw [h0 rfl,show Nat.blt i i=false from by
          cases hq:Nat.blt i i with
          | false=>rfl
          | true=>exact absurd (Nat.le_of_ble_eq_true hq) (by omega)]
        rfl
    | succ k ih =>
      intro i n hk hn;obtain ⟨n,rfl⟩:∃ m,n=m+1:=⟨n - 1,by omega⟩;show F _ _=_;rw [h1 i _ (by omega)];exact ih (i+1) n (by omega) (by omega)
  exact main p 0 n (by omega) (by omega)
def IX (f:Nat→Bool):Nat→Nat→Nat
 | 0,i=>i
 | k+1,i=>cond (f i) i (IX f k (i+1))
theorem NV (f:Nat→Bool):∀ k i,IX f k i≤i+k
 | 0,i=>Nat.le_refl _
 | k+1,i=>by
  show cond (f i) i (IX f k (i+1))≤_;have:=NV f k (i+1);cases f i
  ·show IX f k (i+1)≤_;omega
  ·show i≤_;omega
theorem Sd (f:Nat→Bool):∀ k i j,i≤j→j<IX f k i→f j=false
 | 0,i,j,h1,h2=>by change j<i at h2;omega
 | k+1,i,j,h1,h2=>by
  change j<cond (f i) i (IX f k (i+1)) at h2;cases hf:f i with
  | true=>rw [hf] at h2;change j<i at h2;omega
  | false =>
   rw [hf] at h2
   rcases Nat.lt_or_ge i j with h | h
   ·exact Sd f k (i+1) j h h2
   ·obtain rfl:j=i:=by omega
    exact hf
theorem QO (f:Nat→Bool):∀ k i,IX f k i<i+k→f (IX f k i)=true
 | 0,i,h=>by change i<i at h;omega
 | k+1,i,h=>by
  change cond (f i) i (IX f k (i+1))<i+(k+1) at h;show f (cond (f i) i (IX f k (i+1)))=true;cases hf:f i with
  | true=>exact hf
  | false =>
   rw [hf] at h;change IX f k (i+1)<i+(k+1) at h;exact QO f k (i+1) (by omega)
structure BL where
 p:Int
 b:Int
 m:Int
 r:Int
 w:Int
 wd:Int
 nb:Int
def BL.ls (s:BL):List PV:=[.int s.p,.int s.b,.int s.m,.int s.r,.int s.w,.int s.wd,.int s.nb]
def Ai (xs:List BL):Rows:=xs.map BL.ls
def zBL (b m:Int):BL:=⟨b,0,m,0,0,0,0⟩
def bln (xs:List BL) (i:Nat):BL:=xs.getD i (zBL 0 0)
theorem eo (xs:List BL) (i:Nat):bln xs i=(match xs[i]? with | some s=>s | none=>zBL 0 0):=by
 unfold bln;rw [List.getD_eq_getElem?_getD];cases xs[i]?<;>rfl
theorem ZB {xs:List BL} {i:Nat} (h:i<xs.length):bln xs i=xs[i]:=by rw [eo,List.getElem?_eq_getElem h]
theorem js (xs:List BL) (i:Nat):AB (Ai xs) i=(match xs[i]? with | some s=>s.ls | none=>[]):=by
 unfold AB Ai;rw [List.getD_eq_getElem?_getD,List.getElem?_map];cases xs[i]?<;>rfl
theorem K9 (xs:List BL):(Ai xs).length=xs.length:=List.length_map _
theorem PXv : (∀ xs : List BL, (Ai xs).length = xs.length) ∧ (∀ (xs : List BL) (i : Nat), pvI (AE (Ai xs) i 0) = (bln xs i).p) ∧ (∀ (xs : List BL) (i : Nat), pvI (AE (Ai xs) i 1) = (bln xs i).b) ∧ (∀ (xs : List BL) (i : Nat), pvI (AE (Ai xs) i 2) = (bln xs i).m) ∧ (∀ (xs : List BL) (i : Nat), pvI (AE (Ai xs) i 3) = (bln xs i).r) ∧
    (∀ (xs:List BL) (i:Nat),pvI (AE (Ai xs) i 4)=(bln xs i).w)∧(∀ (xs:List BL) (i:Nat),pvI (AE (Ai xs) i 5)=(bln xs i).wd)∧(∀ (xs:List BL) (i:Nat),pvI (AE (Ai xs) i 6)=(bln xs i).nb):=by
  refine ⟨K9,?_,?_,?_,?_,?_,?_,?_⟩
  all_goals (intro xs i;rw [eo];unfold AE;rw [js];cases xs[i]?<;>rfl)
theorem JB {xs:List BL} {i j:Nat} {v:Int} (f:BL→BL) (h:∀ s:BL,A6 s.ls j [.int v]=(f s).ls):(Ai xs).set i (A6 (AB (Ai xs) i) j [.int v])=Ai (xs.set i (f (bln xs i))):=by
 by_cases hi:i<xs.length
 ·have e:AB (Ai xs) i=(bln xs i).ls:=by rw [js,eo,List.getElem?_eq_getElem hi]
  rw [e,h];exact List.map_set.symm
 ·rw [List.set_eq_of_length_le (by rw [K9];omega),List.set_eq_of_length_le (by omega)]
theorem PXx : (∀ (xs : List BL) (i : Nat) (v : Int), (Ai xs).set i (A6 (AB (Ai xs) i) 1 [.int v]) = Ai (xs.set i { bln xs i with b := v })) ∧ (∀ (xs : List BL) (i : Nat) (v : Int), (Ai xs).set i (A6 (AB (Ai xs) i) 2 [.int v]) = Ai (xs.set i { bln xs i with m := v })) ∧
    (∀ (xs:List BL) (i:Nat) (v:Int),(Ai xs).set i (A6 (AB (Ai xs) i) 3 [.int v])=Ai (xs.set i { bln xs i with r:=v }))∧(∀ (xs:List BL) (i:Nat) (v:Int),(Ai xs).set i (A6 (AB (Ai xs) i) 4 [.int v])=Ai (xs.set i { bln xs i with w:=v })) ∧
    (∀ (xs:List BL) (i:Nat) (v:Int),(Ai xs).set i (A6 (AB (Ai xs) i) 5 [.int v])=Ai (xs.set i { bln xs i with wd:=v }))∧(∀ (xs:List BL) (i:Nat) (v:Int),(Ai xs).set i (A6 (AB (Ai xs) i) 6 [.int v])=Ai (xs.set i { bln xs i with nb:=v })) ∧
    (∀ (xs:List BL) (a b c d e f g:Int),Ai xs++[([.int a,.int b,.int c,.int d,.int e,.int f,.int g]:List PV)]=Ai (xs++[⟨a,b,c,d,e,f,g⟩])) :=
  ⟨fun xs i v=>JB (j:=1) (v:=v) (fun s=>{ s with b:=v }) (fun s=>rfl),fun xs i v=>JB (j:=2) (v:=v) (fun s=>{ s with m:=v }) (fun s=>rfl),fun xs i v=>JB (j:=3) (v:=v) (fun s=>{ s with r:=v }) (fun s=>rfl),fun xs i v=>JB (j:=4) (v:=v) (fun s=>{ s with w:=v }) (fun s=>rfl),fun xs i v=>JB (j:=5) (v:=v) (fun s=>{ s with wd:=v }) (fun s=>rfl),fun xs i v=>JB (j:=6) (v:=v) (fun s=>{ s with nb:=v }) (fun s=>rfl),
    fun xs a b c d e f g=>(List.map_append (f:=BL.ls) (l₁:=xs) (l₂:=[⟨a,b,c,d,e,f,g⟩])).symm⟩
abbrev wr6 (n:Int):Int:=IntKind.i64.wrap n
def blX (x:List PV) (md:Bool) (s:BL):BL:=⟨s.p,cond (pvB (AA x 26)) (wr6 (s.b+1)) s.b,cond md (wr6 (s.m+1)) s.m,wr6 (s.r+pvI (AA x 25)),cond (pvB (AA x 28)) (wr6 (s.w+1)) s.w,cond (pvI (AA x 8)==2) (wr6 (s.wd+1)) s.wd,cond (pvI (AA x 8)==2) s.nb (cond (pvI (AA x 8)==3) (wr6 (s.nb+1)) s.nb)⟩
def ET (b:Int) (xs:List BL):Nat:=IX (fun j=>(bln xs j).p==b) xs.length 0
def Tr (b:Int) (xs:List BL):List BL:=cond (Nat.blt (ET b xs) xs.length) xs (xs++[zBL b 0])
def Zt (x:List PV) (md:Bool) (xs:List BL):List BL:=(Tr (pvI (AA x 4)) xs).set (ET (pvI (AA x 4)) xs) (blX x md (bln (Tr (pvI (AA x 4)) xs) (ET (pvI (AA x 4)) xs)))
def SE (md:Nat→Bool) (X:Rows):Nat→List BL
 | 0=>[]
 | i+1=>Zt (AB X i) (md i) (SE md X i)
def Cc (md:Nat→Bool) (X:Rows) (b m0:Int):Nat→BL
 | 0=>zBL b m0
 | i+1=>cond (pvI (AA (AB X i) 4)==b) (blX (AB X i) (md i) (Cc md X b m0 i)) (Cc md X b m0 i)
def boN (X:Rows):Nat→List Int
 | 0=>[]
 | i+1=>cond ((boN X i).any (·==pvI (AA (AB X i) 4))) (boN X i) (boN X i++[pvI (AA (AB X i) 4)])
theorem kA (X:Rows):∀ i,(boN X i).length≤i
 | 0=>Nat.le_refl _
 | i+1=>by
  have:=kA X i;show (cond _ (boN X i) (boN X i++[_])).length≤i+1;cases (boN X i).any (·==pvI (AA (AB X i) 4))
  ·show (boN X i++[_]).length≤_;rw [List.length_append];exact Nat.succ_le_succ this
  ·exact Nat.le_succ_of_le this
theorem l6 {l:List Int} {b:Int} (h:l.any (·==b)=false):b∉l:=fun hm=>by
 have:l.any (·==b)=true:=List.any_eq_true.2 ⟨b,hm,beq_self_eq_true b⟩;rw [h] at this;cases this
theorem dP (X:Rows):∀ i,(boN X i).Nodup
 | 0=>List.nodup_nil
 | i+1=>by
  have ih:=dP X i;show (cond _ (boN X i) (boN X i++[_])).Nodup;cases ha:(boN X i).any (·==pvI (AA (AB X i) 4)) with
  | true=>exact ih
  | false =>
   refine List.nodup_append.2 ⟨ih,List.pairwise_singleton _ _,fun x hx y hy=>?_⟩;rw [List.mem_singleton.1 hy];exact fun e=>l6 ha (e▸hx)
theorem pN (md:Nat→Bool) (X:Rows) (b m0:Int):∀ i,(Cc md X b m0 i).p=b
 | 0=>rfl
 | i+1=>by
  have ih:=pN md X b m0 i;show (cond _ (blX _ _ (Cc md X b m0 i)) (Cc md X b m0 i)).p=b;cases pvI (AA (AB X i) 4)==b<;>exact ih
theorem fp (md:Nat→Bool) (X:Rows) (b m0:Int):∀ i,b∉boN X i→Cc md X b m0 i=zBL b m0
 | 0,_=>rfl
 | i+1,h=>by
  change b∉cond _ (boN X i) (boN X i++[_]) at h;have h1:b∉boN X i∧(pvI (AA (AB X i) 4)==b)=false:=by
   cases ha:(boN X i).any (·==pvI (AA (AB X i) 4)) with
   | true =>
    rw [ha] at h;refine ⟨h,beq_eq_false_iff_ne.2 (fun e=>h ?_)⟩;obtain ⟨y,hy,hye⟩:=List.any_eq_true.1 ha;rw [← e,← beq_iff_eq.1 hye];exact hy
   | false =>
    rw [ha] at h;have h:b∉boN X i++[_]:=h;exact ⟨fun hm=>h (List.mem_append_left _ hm),beq_eq_false_iff_ne.2 (fun e=>h (List.mem_append_right _ (by rw [e];exact List.mem_singleton.2 rfl)))⟩
  show cond _ (blX _ _ (Cc md X b m0 i)) (Cc md X b m0 i)=_;rw [h1.2];exact fp md X b m0 i h1.1
theorem eU {a b:Nat} (h:a<b):Nat.blt a b=true:=Nat.ble_eq_true_of_le h
theorem eV {a b:Nat} (h:¬ a<b):Nat.blt a b=false:=by
 cases hq:Nat.blt a b with
 | false=>rfl
 | true=>exact absurd (Nat.le_of_ble_eq_true hq) h
theorem jW (md:Nat→Bool) (X:Rows):∀ i,SE md X i=(boN X i).map fun b=>Cc md X b 0 i
 | 0=>rfl
 | i+1=>by
  have ih:=jW md X i;have nd:=dP X i;show Zt (AB X i) (md i) (SE md X i)=(cond ((boN X i).any (·==pvI (AA (AB X i) 4))) (boN X i) (boN X i++[pvI (AA (AB X i) 4)])).map _;rw [ih];generalize hb:pvI (AA (AB X i) 4)=b;generalize hB:boN X i=B at *
  have ls1:∀ c,Cc md X c 0 (i+1)=cond (b==c) (blX (AB X i) (md i) (Cc md X c 0 i)) (Cc md X c 0 i):=fun c=>by rw [← hb];rfl
  have hpj:∀ j (hj:j<B.length),(bln (B.map fun b=>Cc md X b 0 i) j).p=B[j]:=fun j hj=>by
   rw [ZB (by rw [List.length_map];exact hj),List.getElem_map,pN]
  have ple:=NV (fun j=>(bln (B.map fun b=>Cc md X b 0 i) j).p==b) (B.map fun b=>Cc md X b 0 i).length 0;have pno:=Sd (fun j=>(bln (B.map fun b=>Cc md X b 0 i) j).p==b) (B.map fun b=>Cc md X b 0 i).length 0;have pyes:=QO (fun j=>(bln (B.map fun b=>Cc md X b 0 i) j).p==b) (B.map fun b=>Cc md X b 0 i).length 0;unfold Zt;rw [hb];change ET b (B.map fun b=>Cc md X b 0 i)≤_ at ple;change ∀ j,0≤j→j<ET b (B.map fun b=>Cc md X b 0 i)→_ at pno;change ET b (B.map fun b=>Cc md X b 0 i)<_→((bln (B.map fun b=>Cc md X b 0 i) (ET b (B.map fun b=>Cc md X b 0 i))).p==b)=true at pyes;rw [Nat.zero_add,List.length_map] at ple;rw [Nat.zero_add,List.length_map] at pyes;unfold Tr;rw [List.length_map];generalize ET b (B.map fun b=>Cc md X b 0 i)=p at *
  by_cases hp:p<B.length
  ·have hbp:B[p]=b:=by rw [← hpj p hp];exact beq_iff_eq.1 (pyes hp)
   have hany:B.any (·==b)=true:=List.any_eq_true.2 ⟨b,by rw [← hbp];exact List.getElem_mem hp,beq_self_eq_true b⟩;rw [eU hp,hany,cond_true,cond_true];apply List.ext_getElem
   ·simp
   ·intro j h1 h2o;have h2:j<B.length:=by rw [List.length_map] at h2o;exact h2o
    rw [List.getElem_set,show (List.map (fun b=>Cc md X b 0 (i+1)) B)[j]'h2o=Cc md X B[j] 0 (i+1) from List.getElem_map _,ls1]
    by_cases hj:p=j
    ·subst hj;rw [if_pos rfl,hbp,beq_self_eq_true,cond_true,ZB (by rw [List.length_map];exact hp),List.getElem_map,hbp]
    ·rw [if_neg hj,List.getElem_map];have:¬ b=B[j]:=fun e=>hj (by
      rcases Nat.lt_trichotomy p j with h | h | h
      ·exact absurd (hbp.trans e) (List.pairwise_iff_getElem.1 nd p j hp h2 h)
      ·exact h
      ·exact absurd (e.symm.trans hbp.symm) (List.pairwise_iff_getElem.1 nd j p h2 hp h))
     rw [beq_eq_false_iff_ne.2 this,cond_false]
  ·obtain rfl:p=B.length:=by omega
   have hno:b∉B:=fun hm=>by
    obtain ⟨j,hj,e⟩:=List.getElem_of_mem hm;have:=pno j (Nat.zero_le _) hj;change ((bln (B.map fun b=>Cc md X b 0 i) j).p==b)=false at this;rw [hpj j hj,e,beq_self_eq_true] at this;cases this
   have hany:B.any (·==b)=false:=by
    cases h:B.any (·==b) with
    | false=>rfl
    | true =>
     obtain ⟨y,hy,hye⟩:=List.any_eq_true.1 h;exact absurd (beq_iff_eq.1 hye▸hy) hno
   have hz:Cc md X b 0 i=zBL b 0:=fp md X b 0 i (by rw [hB];exact hno);rw [eV hp,hany,cond_false,cond_false,List.map_append];have hs:bln ((B.map fun b=>Cc md X b 0 i)++[zBL b 0]) B.length=zBL b 0:=by
    rw [ZB (by simp),List.getElem_append_right (by simp)];simp
   rw [hs,List.set_append_right _ _ (by simp)];have e1:(B.map fun b=>Cc md X b 0 (i+1))=B.map fun b=>Cc md X b 0 i:=List.map_congr_left (fun c hc=>by
    rw [ls1,beq_eq_false_iff_ne.2 (fun e=>hno (by rw [e];exact hc)),cond_false])
   rw [e1];simp only [List.length_map,Nat.sub_self,List.set_cons_zero,List.map_cons,List.map_nil,ls1,beq_self_eq_true,cond_true,hz]
def Pj (X:Rows) (o b:Int) (j:Nat):Bool:=(pvI (AA (AB X j) 2)==o)&&(!(pvI (AA (AB X j) 4)==b) || !(pvI (AA (AB X j) 25)==0))
def cJ (X:Rows) (o:Int):Nat→Int
 | 0=>0
 | j+1=>cond ((pvI (AA (AB X j) 2)==o)&&pvB (AA (AB X j) 26)) (wr6 (cJ X o j+1)) (cJ X o j)
def mdS (bal:Int) (X:Rows) (o b:Int):Bool := !Nat.blt (IX (Pj X o b) X.length 0) X.length&&(cJ X o X.length==bal)
def nY (X:Rows) (i:Nat):Bool:=Nat.beq i 0 || !(pvI (AA (AB X (i - 1)) 2)==pvI (AA (AB X i) 2))
def mdA (bal:Int) (X:Rows) (i:Nat):Bool:=nY X i&&mdS bal X (pvI (AA (AB X i) 2)) (pvI (AA (AB X i) 4))
end Go.Px
end
section
namespace Go.Px
set_option maxRecDepth 100000
set_option maxHeartbeats 2000000 in
theorem QU {N:Nat} {r1 r2 r3 r4 r5 r6 r7 r9 r10 r11 r12:Int} {r8:Bool} {r0:ByteArray} {r13:Rows} {X:Rows} {o:Int} {b:Int} (hN:2097152<N) (hX:X.length≤1000000):Gw N [.str r0,.int r1,.int r2,.int r3,.int r4,.int r5,.int r6,.int r7,.bool r8,.int r9,.int r10,.int r11,.int r12,.rows r13,.rows X,.int o,.int b]=some [.bool (mdS r4 X o b)]:=by
 show HB (std (Nw N) N) (xOf _)=_;simp only [HB,q9,std,xOf,PXb];have ple:=NV (Pj X o b) X.length 0;have pno:=Sd (Pj X o b) X.length 0;have pyes:=QO (Pj X o b) X.length 0;rw [Nat.zero_add] at ple pyes;refine Ab (WX (len:=X.length) (p:=IX (Pj X o b) X.length 0) (fun i=>[.int (cJ X o i),.int (i:Int)]) [.int 0,.bool false] [.int 1,.int (cJ X o X.length)] ple ?_ ?_ ?_ N (by omega)) ?_
 ·intro _ self;simp only [PXb,PXc,PXn,AH,BM]
 ·intro i self hi;have hb:=pno i (Nat.zero_le _) hi;unfold Pj at hb;have hl:i<X.length:=by omega
  simp only [PXb,PXc,PXn,AH,DT (show i≤1099511627776 by omega),Az hl,AY hl,AE,cJ];cases h1:pvI (AA (AB X i) 2)==o with
  | false=>rfl
  | true =>
   rw [h1,Bool.true_and] at hb;cases h2:pvI (AA (AB X i) 4)==b<;>cases h3:pvI (AA (AB X i) 25)==0<;>rw [h2,h3] at hb<;>first | (cases hb;done) | (cases pvB (AA (AB X i) 26)<;>rfl)
 ·intro hl self;have hb:=pyes hl;generalize IX (Pj X o b) X.length 0=p at *
  unfold Pj at hb;simp only [PXb,PXc,PXn,AH,Az hl,AY hl,AE];cases h1:pvI (AA (AB X p) 2)==o<;>cases h2:pvI (AA (AB X p) 4)==b<;>cases h3:pvI (AA (AB X p) 25)==0<;>rw [h1,h2,h3] at hb<;>first | (cases hb;done) | rfl
 ·unfold mdS;cases Nat.blt (IX (Pj X o b) X.length 0) X.length<;>rfl
end Go.Px
end
section
namespace Go.Px
set_option maxRecDepth 100000
def YY (x:List PV):Prop:=x.length=32∧E2 x=x
theorem cc {L:Rows}:∀ k i m out,(∀ x∈out,YY x)→∀ x∈IG L k i m out,YY x
 | 0,i,m,out,h=>h
 | k+1,i,m,out,h=>by
  show ∀ x∈IG L k (i+1) (As i m (evR L i)).1 (cond ((evR L i).kind==4) (out++[MH i m (As i m (evR L i)).1 (evR L i).ball]) out),YY x;refine cc k (i+1) _ _ ?_;cases (evR L i).kind==4 with
  | false=>exact h
  | true =>
   intro x hx
   rcases List.mem_append.1 hx with hx | hx
   ·exact h x hx
   ·rw [List.mem_singleton.1 hx];exact ⟨rfl,rfl⟩
theorem jL {r:Rul} {L:Rows} (hc:CM r L=0):∀ x∈Bi r L,YY x:=by
 obtain ⟨h1,h2,h3,h4,h5⟩:=Nu hc;have:Bi r L=IG L L.length 0 (Al r).1 []:=by
  unfold Bi;rw [h1];obtain ⟨j,j1,j2,j3,j4⟩:=To L L.length 0 (Al r).1;show KW L L.length 0 (Al r).1 []=_;rw [j3 []]
  rcases j4 with ⟨j5,_⟩ | ⟨j5,j6,j7⟩
  ·rw [j5]
  ·have hh:=Vq L.length 0 _ h4 j j5;rw [hh] at j6;cases j6
 rw [this];exact cc _ _ _ _ (fun x hx=>absurd hx List.not_mem_nil)
theorem bn {k:Int}:∀ {A:Rows},(∀ x∈A,YY x)→(∀ x∈A,(pvI (AA x 1)==k)=true)→fil k A=A
 | [],_,_=>rfl
 | x::A,h,h1=>by
  show cond (pvI (AA x 1)==k) (E2 x::fil k A) (fil k A)=_;rw [h1 x List.mem_cons_self,bn (fun y hy=>h y (List.mem_cons_of_mem _ hy)) (fun y hy=>h1 y (List.mem_cons_of_mem _ hy)),(h x List.mem_cons_self).2];rfl
theorem We {D:Rows} {i:Nat} (h:i<D.length):AB D i∈D:=by
 unfold AB;rw [List.getD_eq_getElem?_getD,List.getElem?_eq_getElem h];exact List.getElem_mem h
theorem il {D:Rows} {x:List PV} {n:Nat} (h:x∈D.take n):∃ j,j<n∧j<D.length∧x=AB D j:=by
 obtain ⟨j,hj,e⟩:=List.getElem_of_mem h;rw [List.length_take] at hj;refine ⟨j,by omega,by omega,?_⟩;rw [← e,List.getElem_take];unfold AB;rw [List.getD_eq_getElem?_getD,List.getElem?_eq_getElem (by omega)];rfl
theorem aj:∀ (ps r:List PV) (off:Nat),r.length=off+ps.length→A6 r off ps=r.take off++ps
 | [],r,off,h=>by
  show r=_;rw [List.append_nil,List.take_of_length_le (by simpa using Nat.le_of_eq h)]
 | p::ps,r,off,h=>by
  show A6 (r.set off p) (off+1) ps=_;have hl:off<r.length:=by rw [h];simp
  rw [aj ps (r.set off p) (off+1) (by rw [List.length_set,h];simp;omega),List.take_add_one,List.getElem?_set_self hl,List.take_set_of_le (Nat.le_refl _)];simp
theorem jK {ps r:List PV} (h:r.length=ps.length):A6 r 0 ps=ps:=by rw [aj ps r 0 (by omega)];rfl
def dlN (D:Rows) (k:Int) (p:Nat):Nat→Rows×Nat
 | 0=>(D,p)
 | t+1=>cond (pvI (AA (AB (dlN D k p t).1 (p+1+t)) 1)==k) ((dlN D k p t).1.set (dlN D k p t).2 (E2 (AB (dlN D k p t).1 (p+1+t))),(dlN D k p t).2+1) (dlN D k p t)
structure DlF (D:Rows) (k:Int) (p t:Nat):Prop where
 len:(dlN D k p t).1.length=D.length
 le:(dlN D k p t).2≤p+t
 cut:(dlN D k p t).1.take (dlN D k p t).2=fil k (D.take (p+1+t))
 rest:∀ j,p+1+t≤j→AB (dlN D k p t).1 j=AB D j
 row:∀ x∈(dlN D k p t).1,YY x
theorem qr {D:Rows} {k:Int} {p:Nat} (hD:∀ x∈D,YY x) (hp:p<D.length) (h0:∀ j,j<p→(pvI (AA (AB D j) 1)==k)=true) (h1:(pvI (AA (AB D p) 1)==k)=false):∀ t,p+1+t≤D.length→DlF D k p t
 | 0,_=>by
  refine ⟨rfl,Nat.le_refl _,?_,fun j _=>rfl,hD⟩;show D.take p=fil k (D.take (p+1));rw [gS hp,show pvI (AE D p 1)=pvI (AA (AB D p) 1) from rfl,h1,cond_false,bn (fun x hx=>hD x (List.mem_of_mem_take hx)) (fun x hx=>by
   obtain ⟨j,h2,h3,rfl⟩:=il hx;exact h0 j h2)]
 | t+1,ht=>by
  obtain ⟨f1,f2,f3,f4,f5⟩:=qr hD hp h0 h1 t (by omega);have hj:p+1+t<D.length:=by omega
  have hr:=f4 (p+1+t) (Nat.le_refl _);have ft:=gS (k:=k) hj;rw [show pvI (AE D (p+1+t) 1)=pvI (AA (AB D (p+1+t)) 1) from rfl] at ft;have e:dlN D k p (t+1)=cond (pvI (AA (AB D (p+1+t)) 1)==k) ((dlN D k p t).1.set (dlN D k p t).2 (E2 (AB D (p+1+t))),(dlN D k p t).2+1) (dlN D k p t):=by rw [← hr];rfl
  cases hk:pvI (AA (AB D (p+1+t)) 1)==k with
  | false =>
   rw [hk,cond_false] at e ft;exact ⟨by rw [e];exact f1,by rw [e];omega,by rw [e,f3,show p+1+(t+1)=p+1+t+1 by omega,ft],fun j hj2=>by rw [e];exact f4 j (by omega),by rw [e];exact f5⟩
  | true =>
   rw [hk,cond_true] at e ft;have hl:(dlN D k p t).2<(dlN D k p t).1.length:=by omega
   refine ⟨by rw [e];show (List.set _ _ _).length=_;rw [List.length_set];exact f1,by rw [e];show (dlN D k p t).2+1≤_;omega,?_,fun j hj2=>?_,?_⟩
   ·rw [e,show p+1+(t+1)=p+1+t+1 by omega,ft,← f3];show ((dlN D k p t).1.set (dlN D k p t).2 _).take ((dlN D k p t).2+1)=_;rw [List.take_add_one,List.getElem?_set_self hl,List.take_set_of_le (Nat.le_refl _)];rfl
   ·rw [e,← f4 j (by omega)];show AB ((dlN D k p t).1.set (dlN D k p t).2 _) j=_;unfold AB;simp only [List.getD_eq_getElem?_getD,List.getElem?_set_ne (show (dlN D k p t).2≠j by omega)]
   ·rw [e];intro x hx
    rcases List.mem_or_eq_of_mem_set hx with h | h
    ·exact f5 x h
    ·have:=hD _ (We hj);rw [h,this.2];exact this
def V1 (r:Rul) (L:Rows) (k:Int):Rows×Int:=cond ((Sx r L k).2==0) (Ai (SE (mdA r.balls (Sx r L k).1) (Sx r L k).1 (Sx r L k).1.length),0) ([],(Sx r L k).2)
def pT (x:List PV):List AX:=[.int (pvI (AA x 0)),.int (pvI (AA x 1)),.int (pvI (AA x 2)),.int (pvI (AA x 3)),.int (pvI (AA x 4)),.int (pvI (AA x 5)),.int (pvI (AA x 6)),.bool (pvB (AA x 7)),.int (pvI (AA x 8)),.int (pvI (AA x 9)),.int (pvI (AA x 10)),.int (pvI (AA x 11)),.int (pvI (AA x 12)),.bool (pvB (AA x 13)),.int (pvI (AA x 14)),.int (pvI (AA x 15)),.int (pvI (AA x 16)),.int (pvI (AA x 17)),.bool (pvB (AA x 18)),.int (pvI (AA x 19)),.int (pvI (AA x 20)),.int (pvI (AA x 21)),.int (pvI (AA x 22)),.int (pvI (AA x 23)),.int (pvI (AA x 24)),.int (pvI (AA x 25)),.bool (pvB (AA x 26)),.bool (pvB (AA x 27)),.bool (pvB (AA x 28)),.bool (pvB (AA x 29)),.int (pvI (AA x 30)),.int (pvI (AA x 31))]
theorem py {ys:List BL} {p:Nat} (h:p<ys.length) (s:BL):bln (ys.set p s) p=s:=by rw [ZB (by rw [List.length_set];exact h),List.getElem_set_self]
theorem pV (b:Int) (xs:List BL):ET b xs<(Tr b xs).length∧(Tr b xs).length≤xs.length+1:=by
 have ple:=NV (fun j=>(bln xs j).p==b) xs.length 0;rw [Nat.zero_add] at ple;change ET b xs≤xs.length at ple;unfold Tr
 by_cases h:ET b xs<xs.length
 ·rw [eU h,cond_true];exact ⟨h,Nat.le_succ _⟩
 ·rw [eV h,cond_false,List.length_append];exact ⟨by simp only [List.length_cons,List.length_nil];omega,Nat.le_refl _⟩
theorem PXw:(∀ (xs:List BL) (i:Nat),pvI (AA (AB (Ai xs) i) 0)=(bln xs i).p)∧(∀ (xs:List BL) (i:Nat),pvI (AA (AB (Ai xs) i) 1)=(bln xs i).b)∧(∀ (xs:List BL) (i:Nat),pvI (AA (AB (Ai xs) i) 2)=(bln xs i).m)∧(∀ (xs:List BL) (i:Nat),pvI (AA (AB (Ai xs) i) 3)=(bln xs i).r)∧(∀ (xs:List BL) (i:Nat),pvI (AA (AB (Ai xs) i) 4)=(bln xs i).w)∧(∀ (xs:List BL) (i:Nat),pvI (AA (AB (Ai xs) i) 5)=(bln xs i).wd)∧(∀ (xs:List BL) (i:Nat),pvI (AA (AB (Ai xs) i) 6)=(bln xs i).nb):=PXv.2
theorem rF {N : Nat} (hN : 2097152 < N) {xs : List BL} (hx : xs.length ≤ 1000000) {b : Int} {J : List AX} {F : (List AX → Option (List PV)) → List PV → Option (List PV)}
    (h0:∀ self,F self (.int (xs.length:Int)::J.map Leaf.pv)=some (.int 1::J.map Leaf.pv)) (h1:∀ i self,i<xs.length→F self (.int (i:Int)::J.map Leaf.pv)=cond ((bln xs i).p==b) (some (.int 0::.int (i:Int)::J.map Leaf.pv)) (self (.int ((i+1:Nat):Int)::J))) :
    Dy F N (.int 0::J.map Leaf.pv)=some (cond (Nat.blt (ET b xs) xs.length) (.int 0::.int (ET b xs:Int)::J.map Leaf.pv) (.int 1::J.map Leaf.pv)):=by
  have ple:=NV (fun j=>(bln xs j).p==b) xs.length 0;have pno:=Sd (fun j=>(bln xs j).p==b) xs.length 0;have pyes:=QO (fun j=>(bln xs j).p==b) xs.length 0;rw [Nat.zero_add] at ple pyes;have:=WX (F:=F) (len:=xs.length) (p:=ET b xs) (fun i=>.int (i:Int)::J) (.int 0::.int (ET b xs:Int)::J.map Leaf.pv) (.int 1::J.map Leaf.pv) ple (fun _ self=>h0 self) (fun i self hi=>by
    have:=h1 i self (Nat.lt_of_lt_of_le hi ple);rw [show ((bln xs i).p==b)=false from pno i (Nat.zero_le _) hi] at this;exact this) (fun hl self=>by
    have:=h1 (ET b xs) self hl;rw [show ((bln xs (ET b xs)).p==b)=true from pyes hl] at this;exact this) N (by omega)
  exact this
set_option maxHeartbeats 8000000 in
theorem XD {N:Nat} {r1 r2 r3 r4 r5 r6 r7 r9 r10 r11 r12:Int} {r8:Bool} {r0:ByteArray} {r13:Rows} {L:Rows} {k:Int} (hN:2097152<N) (hs:r0.size≤1048576) (h13:r13.length≤1048576) (hL:L.length≤1000000):CQ N [.str r0,.int r1,.int r2,.int r3,.int r4,.int r5,.int r6,.int r7,.bool r8,.int r9,.int r10,.int r11,.int r12,.rows r13,.rows L,.int k]=some [.rows (V1 (⟨r0,r1,r2,r3,r4,r5,r6,r7,r8,r9,r10,r11,r12,r13⟩:Rul) L k).1,.int (V1 (⟨r0,r1,r2,r3,r4,r5,r6,r7,r8,r9,r10,r11,r12,r13⟩:Rul) L k).2]:=by
 show D8 (std (BN N) N) (xOf _)=_;generalize hres:(some [.rows (V1 (⟨r0,r1,r2,r3,r4,r5,r6,r7,r8,r9,r10,r11,r12,r13⟩:Rul) L k).1,.int (V1 (⟨r0,r1,r2,r3,r4,r5,r6,r7,r8,r9,r10,r11,r12,r13⟩:Rul) L k).2]:Option (List PV))=RR;have hl:L.length≤1048576:=by omega
 simp only [D8,N4,Lp,OW,K3,q9,std,xOf,PXb,Xd hN hs h13 hl,S5 hN hl,UN hN hs h13 hl,ah,PXc];subst hres;simp only [V1,Sx];cases hc:CM (⟨r0,r1,r2,r3,r4,r5,r6,r7,r8,r9,r10,r11,r12,r13⟩:Rul) L==0 with
 | false=>simp only [PXb,Bool.not_false,hc]
 | true =>
  have c0:=beq_iff_eq.1 hc;have pl:=TZ (⟨r0,r1,r2,r3,r4,r5,r6,r7,r8,r9,r10,r11,r12,r13⟩:Rul) L;have l4:=(Nu c0).2.2.1;have rd:=jL c0;cases h0:iLt k 0 with
  | true=>rfl
  | false =>
   simp only [PXb,Bool.not_true,Bool.not_false,PXp,SV];cases h1:iLe (opn L L.length:Int) k with
   | true=>rfl
   | false =>
    simp only [PXb];generalize Bi (⟨r0,r1,r2,r3,r4,r5,r6,r7,r8,r9,r10,r11,r12,r13⟩:Rul) L=D at *
    have ple:=NV (fun j => !(pvI (AA (AB D j) 1)==k)) D.length 0;have pno:=Sd (fun j => !(pvI (AA (AB D j) 1)==k)) D.length 0;have pyes:=QO (fun j => !(pvI (AA (AB D j) 1)==k)) D.length 0;rw [Nat.zero_add] at ple pyes;generalize IX (fun j => !(pvI (AA (AB D j) 1)==k)) D.length 0=p at *
    refine JU (v:=[.rows (fil k D),.int k]) ?_ ?_
    ·refine JU (v:=[.int (cond (Nat.blt p D.length) (p:Int) (-1)),.int k]) ?_ ?_
     ·refine Ab (WX (len:=D.length) (p:=p) (fun i=>[.int (i:Int),.int k]) [.int 0,.int (p:Int),.int k] [.int 1,.int k] ple ?_ ?_ ?_ N (by omega)) ?_
      ·intro _ self;simp only [PXb,PXc,PXn,AH,BM]
      ·intro i self hi;have hb:=pno i (Nat.zero_le _) hi;have hl2:i<D.length:=by omega
       simp only [PXb,PXc,PXn,AH,DT (show i≤1099511627776 by omega),Az hl2,AY hl2,AE,hb]
      ·intro hl2 self;have hb:=pyes hl2;simp only [PXb,PXc,PXn,AH,Az hl2,AY hl2,AE,hb]
      ·cases Nat.blt p D.length<;>rfl
     ·by_cases hp:p<D.length
      ·have f:=qr rd hp (fun j hj=>by
        have:=pno j (Nat.zero_le _) hj
        rwa [Bool.not_eq_false'] at this) (by
        have:=pyes hp
        rwa [Bool.not_eq_true'] at this)
       have pm:((p:Int) == -1)=false:=beq_eq_false_iff_ne.2 (by omega);have e9:p+1+(D.length - (p+1))=D.length:=by omega
       simp only [PXb,eU hp,pm,DT (show p≤1099511627776 by omega)];refine Ab (D3 (len:=D.length - (p+1)) (fun t=>[.rows (dlN D k p t).1,.int ((dlN D k p t).2:Int),.int ((p+1+t:Nat):Int),.int k]) [.rows (dlN D k p (D.length - (p+1))).1,.int ((dlN D k p (D.length - (p+1))).2:Int),.int k] ?_ ?_ N (by omega)) ?_
       ·intro self;have fl:=(f (D.length - (p+1)) (by omega)).len;have el:(dlN D k p (D.length - (p+1))).1.length=p+1+(D.length - (p+1)):=by omega
        simp only [PXb,PXc,PXn,AH,el,BM]
       ·intro t self ht;obtain ⟨f1,f2,f3,f4,f5⟩:=f t (by omega);have hj:p+1+t<(dlN D k p t).1.length:=by omega
        have hi:(dlN D k p t).2<(dlN D k p t).1.length:=by omega
        have rl:=(f5 _ (We hi)).1;have rj:=(f5 _ (We hj)).1;have e:dlN D k p (t+1)=cond (pvI (AA (AB (dlN D k p t).1 (p+1+t)) 1)==k) ((dlN D k p t).1.set (dlN D k p t).2 (E2 (AB (dlN D k p t).1 (p+1+t))),(dlN D k p t).2+1) (dlN D k p t):=rfl;have pf:A6 (AB (dlN D k p t).1 (dlN D k p t).2) 0 (E2 (AB (dlN D k p t).1 (p+1+t)))=E2 (AB (dlN D k p t).1 (p+1+t)):=jK (by rw [rl];rfl);rw [e];generalize dlN D k p t=q at *
        simp only [PXb,PXc,PXn,AH,Az hj,AY hj,AY hi,DT (show p+1+t≤1099511627776 by omega),DT (show q.2≤1099511627776 by omega),AE,Int.toNat_natCast];cases pvI (AA (AB q.1 (p+1+t)) 1)==k with
        | false=>rfl
        | true =>
         refine congrArg self ?_;refine congrArg (fun z:Rows=>([Leaf.rows z,.int ((q.2+1:Nat):Int),.int ((p+1+t+1:Nat):Int),.int k]:List AX)) ?_;exact congrArg (fun z=>List.set q.1 q.2 z) pf
       ·obtain ⟨f1,f2,f3,f4,f5⟩:=f (D.length - (p+1)) (by omega);rw [e9,List.take_length] at f3;generalize dlN D k p (D.length - (p+1))=q at *
        have g1:iRg (q.2:Int) (q.1.length:Int) (q.1.length:Int)=true:=by simp only [iRg,decide_eq_true_eq];omega
        have t1:∀ z:List PV,(List.drop (Int.toNat 0) (List.take q.2 q.1)++List.replicate (List.drop q.2 (List.take q.1.length q.1)).length z).take q.2=fil k D:=fun z=>by
         rw [← f3];show List.take q.2 (List.take q.2 q.1++_)=_;rw [List.take_append_of_le_length (by rw [List.length_take];omega),List.take_take,Nat.min_self]
        have t2:∀ z:List PV,iRg 0 (q.2:Int) (((List.drop (Int.toNat 0) (List.take q.2 q.1)++List.replicate (List.drop q.2 (List.take q.1.length q.1)).length z).length:Nat):Int)=true:=fun z=>by
         simp only [iRg,decide_eq_true_eq,List.length_append,List.length_drop,List.length_take];have:(Int.toNat 0)=0:=rfl;omega
        simp only [PXb,PXc,PXn,AH,g1,Int.toNat_natCast,t1,t2];rfl
      ·have pe:p=D.length:=by omega
       have fa:fil k D=D:=bn rd (fun x hx=>by
        obtain ⟨j,hj,e⟩:=List.getElem_of_mem hx;have:=pno j (Nat.zero_le _) (by omega);rw [Bool.not_eq_false'] at this;rw [← e];unfold AB at this
        rwa [List.getD_eq_getElem?_getD,List.getElem?_eq_getElem hj] at this)
       have pm:((-1:Int) == -1)=true:=rfl;simp only [PXb,eV hp,pm,fa]
    ·have X4:(fil k D).length≤1000000:=Nat.le_trans (jq k D) (by omega);generalize fil k D=X at *
     simp only [PXb];refine Ab (D3 (len:=X.length) (fun i=>[.rows (Ai (SE (mdA r4 X) X i)),.int (i:Int)]) [.rows (Ai (SE (mdA r4 X) X X.length))] ?_ ?_ N (by omega)) rfl
     ·intro self;simp only [PXb,PXc,PXn,AH,BM]
     ·intro i self hi;have e:SE (mdA r4 X) X (i+1)=Zt (AB X i) (mdA r4 X i) (SE (mdA r4 X) X i):=rfl;have ln:(SE (mdA r4 X) X i).length≤i:=by rw [jW,List.length_map];exact kA X i
      rw [e];generalize SE (mdA r4 X) X i=xs at *
      simp only [PXb,PXc,PXn,AH,Az hi,AY hi,AE];have hnew:nY X i=(Nat.beq i 0 || !(pvI (AA (AB X (i - 1)) 2)==pvI (AA (AB X i) 2))):=rfl;have hmd:mdA r4 X i=(nY X i&&mdS r4 X (pvI (AA (AB X i) 2)) (pvI (AA (AB X i) 4))):=rfl;rw [hmd,hnew];generalize AB X i=x at *
      obtain ⟨pa1,pa2⟩:=pV (pvI (AA x 4)) xs;refine JU (v:=.int (cond (Nat.blt (ET (pvI (AA x 4)) xs) xs.length) (ET (pvI (AA x 4)) xs:Int) (-1))::E2 x) ?_ ?_
      ·refine Ab (rF hN (show xs.length≤1000000 by omega) (b:=pvI (AA x 4)) (J:=pT x) ?_ ?_) ?_
       ·intro self;simp only [PXb,PXc,PXn,AH,PXv,BM];rfl
       ·intro j self hj;simp only [PXb,PXc,PXn,AH,PXw,DT (show j≤1099511627776 by omega),Az (show j<(Ai xs).length by rw [K9];exact hj),AY (show j<(Ai xs).length by rw [K9];exact hj),pT]
       ·cases Nat.blt (ET (pvI (AA x 4)) xs) xs.length<;>rfl
      ·refine JU (v:=[.rows (Ai (Tr (pvI (AA x 4)) xs)),.int (ET (pvI (AA x 4)) xs:Int)]) ?_ ?_
       ·have ple:=NV (fun j=>(bln xs j).p==pvI (AA x 4)) xs.length 0;rw [Nat.zero_add] at ple;change ET (pvI (AA x 4)) xs≤xs.length at ple;unfold Tr;simp only [PXb,PXc,PXn,AH,E2];generalize ET (pvI (AA x 4)) xs=q at *
        by_cases hq:q<xs.length
        ·have q0:iLt (q:Int) 0=false:=by simp only [iLt,decide_eq_false_iff_not];omega
         simp only [eU hq,cond_true,q0,cond_false]
        ·obtain rfl:q=xs.length:=by omega
         have q0:iLt (-1) 0=true:=rfl;have sm:iSm ((xs.length+1:Nat):Int) 56=true:=GA (by omega) (by omega);have w1:IntKind.i64.wrap (((xs.length+1:Nat):Int) - 1)=(xs.length:Int):=by rw [CG (by omega) (by omega)];omega
         simp only [eV hq,cond_false,q0,cond_true,K9,List.length_append,List.length_cons,List.length_nil,Nat.zero_add,sm,w1,PXx];rfl
       ·unfold Zt;generalize Tr (pvI (AA x 4)) xs=ys at *
        generalize ET (pvI (AA x 4)) xs=q at *
        have iq:iIn (q:Int) ((Ai ys).length:Int)=true:=by rw [K9];exact AY pa1
        have bs:=fun s=>py pa1 s
        have hz:((i:Int)==0)=Nat.beq i 0:=by
         cases i with
         | zero=>rfl
         | succ i=>exact beq_eq_false_iff_ne.2 (by omega)
        have hw:Nat.beq i 0=false→IntKind.i64.wrap ((i:Int) - 1)=((i - 1:Nat):Int)∧iIn ((i - 1:Nat):Int) (X.length:Int)=true:=fun h=>by
         have:i≠0:=fun e=>by rw [e] at h;cases h
         exact ⟨by rw [CG (by omega) (by omega)];omega,AY (by omega)⟩
        have fin:∀ {K:Option (List PV)} {y z:BL},K=self [.rows (Ai (ys.set q y)),.int ((i+1:Nat):Int)]→y=z→K=self [.rows (Ai (ys.set q z)),.int ((i+1:Nat):Int)]:=fun {K y z} h e=>by rw [h,e]
        unfold blX;have wi:IntKind.i64.wrap ((i:Int)+1)=((i+1:Nat):Int):=DT (show i≤1099511627776 by omega);cases hn:Nat.beq i 0 with
        | true =>
         cases hct:pvB (AA x 26)<;>cases hwk:pvB (AA x 28)<;>cases ht2:pvI (AA x 8)==2<;>cases ht3:pvI (AA x 8)==3<;>simp only [PXb,PXc,PXn,AH,E2,iq,PXx,PXw,Int.toNat_natCast,bs,List.set_set,hct,hwk,ht2,ht3,hz,hn,wi]<;>(refine JU (QU hN X4) ?_;cases mdS r4 X (pvI (AA x 2)) (pvI (AA x 4))<;>rfl)
        | false =>
         obtain ⟨w1,w2⟩:=hw hn;cases ho:pvI (AA (AB X (i - 1)) 2)==pvI (AA x 2) with
         | true =>
          cases hct:pvB (AA x 26)<;>cases hwk:pvB (AA x 28)<;>cases ht2:pvI (AA x 8)==2<;>cases ht3:pvI (AA x 8)==3<;>simp only [PXb,PXc,PXn,AH,E2,iq,PXx,PXw,Int.toNat_natCast,bs,List.set_set,hct,hwk,ht2,ht3,hz,hn,wi,w1,w2,ho]<;>rfl
         | false =>
          cases hct:pvB (AA x 26)<;>cases hwk:pvB (AA x 28)<;>cases ht2:pvI (AA x 8)==2<;>cases ht3:pvI (AA x 8)==3<;>simp only [PXb,PXc,PXn,AH,E2,iq,PXx,PXw,Int.toNat_natCast,bs,List.set_set,hct,hwk,ht2,ht3,hz,hn,wi,w1,w2,ho]<;>(refine JU (QU hN X4) ?_;cases mdS r4 X (pvI (AA x 2)) (pvI (AA x 4))<;>rfl)
end Go.Px
end
section
namespace Go.Px
set_option maxRecDepth 100000
theorem sN:V1 W1 Wv 1=(Ai [⟨2,1,0,5,0,1,0⟩],0):=by kernel_rfl
theorem rY:GM 4194304 [.int 2,.int 1,.int 0,.int 5,.int 0,.int 1,.int 0,.int 4]=some [.str ⟨#[48,46,49,45,48,45,53,45,48]⟩,.int 0]:=by kernel_rfl
theorem qw:EF 4194304 [.int 2,.int 1,.int 0,.int 5,.int 0,.int 1,.int 0,.int 4]=some [.int 20,.int 1,.int 0]:=by kernel_rfl
set_option maxHeartbeats 2000000 in
theorem ir:J2 4194304 []=some [.bool true]:=by
 have hs:W1.name.size≤1048576:=by decide
 have hl:Wv.length≤1000000:=by decide
 have hN:2097152<4194304:=by omega
 have k1:CQ 4194304 (W1.ls++[.rows Wv,.int 1])=some [.rows (V1 W1 Wv 1).1,.int (V1 W1 Wv 1).2]:=XD hN hs (Nat.zero_le _) hl;rw [sN] at k1;obtain ⟨xs,hxs⟩:∃ xs:List BL,xs=[⟨2,1,0,5,0,1,0⟩]:=⟨_,rfl⟩;rw [← hxs] at k1;have i1:iIn 0 ((Ai xs).length:Int)=true:=by rw [hxs];rfl
 have i2:(((Ai xs).length:Int)==1)=true:=by rw [hxs];rfl
 have z0:(0:Int).toNat=0:=rfl;have e0:pvI (AE (Ai xs) 0 0)=2:=by rw [hxs];rfl
 have e1:pvI (AE (Ai xs) 0 1)=1:=by rw [hxs];rfl
 have e2:pvI (AE (Ai xs) 0 2)=0:=by rw [hxs];rfl
 have e3:pvI (AE (Ai xs) 0 3)=5:=by rw [hxs];rfl
 have e4:pvI (AE (Ai xs) 0 4)=0:=by rw [hxs];rfl
 have e5:pvI (AE (Ai xs) 0 5)=1:=by rw [hxs];rfl
 have e6:pvI (AE (Ai xs) 0 6)=0:=by rw [hxs];rfl
 show Nh (std (Dz 4194304) 4194304) (xOf [])=_;simp only [Nh,Nn,P4,ON,Sv,VE,q9,std,xOf,PXb,ru,qN];refine JU k1 ?_;simp only [PXb,PXc,PXn,AH,Nat.reduceAdd,z0,i1,i2,e0,e1,e2,e3,e4,e5,e6];have cb:(!(0:Int)==0||(!(2:Int)==2||(!(1:Int)==1||(!(0:Int)==0||(!(5:Int)==5||(!(0:Int)==0||(!(1:Int)==1 || !(0:Int)==0)))))))=false:=by decide
 rw [cb,cond_false];refine JU rY ?_;simp only [PXb,PXc,PXn,AH,Nat.reduceAdd,z0,i1,i2,e0,e1,e2,e3,e4,e5,e6];refine JU qw ?_;simp only [PXb,PXc,PXn,AH,beq_self_eq_true]
end Go.Px
end
section
namespace Go.Px
set_option maxRecDepth 100000
def bkN (same wk:Nat→Bool):Nat→Nat
 | 0=>0
 | t+1=>cond (same t) (cond (wk t) (bkN same wk t+1) 0) (bkN same wk t)
theorem pP (same wk:Nat→Bool):∀ t,bkN same wk t≤t
 | 0=>Nat.le_refl _
 | t+1=>by
  have:=pP same wk t;unfold bkN;cases same t
  ·exact Nat.le_succ_of_le this
  ·cases wk t
   ·exact Nat.zero_le _
   ·exact Nat.succ_le_succ this
theorem fF {same same' wk:Nat→Bool}:∀ t,(∀ j,j<t→same j=same' j)→bkN same wk t=bkN same' wk t
 | 0,_=>rfl
 | t+1,h=>by
  unfold bkN;rw [h t (Nat.lt_succ_self t),fF t (fun j hj=>h j (Nat.lt_succ_of_lt hj))]
def hSd (z:List Int) (D:Rows) (j:Nat):Int:=z.getD (pvI (AE D j 1)).toNat 0
def Zm (z:List Int) (D:Rows) (i j:Nat):Bool:=pvI (AE D j 4)==pvI (AE D i 4)&&hSd z D j==hSd z D i
def hWk (D:Rows) (j:Nat):Bool:=pvB (AE D j 28)
def Hz (z:List Int) (D:Rows) (i:Nat):Nat:=bkN (Zm z D i) (hWk D) (i+1)
def Y4 (z:List Int) (D:Rows) (i:Nat):List PV:=[.int 5,.int (pvI (AE D i 4)),.int (Hz z D i:Int),.int (pvI (AE D i 0))]
def EP (z:List Int) (D:Rows):Nat→Rows
 | 0=>[]
 | i+1=>cond (iLe 3 (Hz z D i:Int)) (EP z D i++[Y4 z D i]) (EP z D i)
theorem cC (z:List Int) (D:Rows):∀ i,(EP z D i).length≤i
 | 0=>Nat.le_refl _
 | i+1=>by
  have:=cC z D i;unfold EP;cases iLe 3 (Hz z D i:Int)
  ·exact Nat.le_succ_of_le this
  ·rw [cond_true,List.length_append,List.length_singleton];omega
def oC (z:List Int) (D:Rows):Prop:=∀ j,j<D.length→∃ k:Nat,k<z.length∧pvI (AE D j 1)=(k:Int)
theorem Te {r:Rul} {L:Rows} (hc:CM r L=0):∀ n,n≤L.length→∀ x,x∈IG L n 0 (Al r).1 []→∃ a:Nat,a<n∧((evR L a).kind==4)=true∧pvI (AA x 0)=(a:Int)∧pvI (AA x 1)=((opn L a - 1:Nat):Int)∧1≤opn L a∧pvB (AA x 28)=(AF r (evR L a).ball).wicket
 | 0,_,x,hx=>absurd hx List.not_mem_nil
 | n+1,hn,x,hx=>by
  have ih:=Te hc n (by omega);rw [Tb,Nat.zero_add] at hx;cases hk:(evR L n).kind==4 with
  | false =>
   rw [hk,cond_false] at hx;obtain ⟨a,h1,h2⟩:=ih x hx;exact ⟨a,by omega,h2⟩
  | true =>
   rw [hk,cond_true] at hx
   rcases List.mem_append.1 hx with hx | hx
   ·obtain ⟨a,h1,h2⟩:=ih x hx;exact ⟨a,by omega,h2⟩
   ·have bf:=rG hc (show n<L.length by omega) hk;rw [List.mem_singleton.1 hx];refine ⟨n,Nat.lt_succ_self n,hk,rfl,bf.inn,bf.one,?_⟩;show (AF (stM L n 0 (Al r).1).rules (evR L n).ball).wicket=_;rw [bf.rules]
theorem X0 {r:Rul} {L:Rows} (hc:CM r L=0):Bi r L=IG L L.length 0 (Al r).1 []:=by
 obtain ⟨h1,h2,h3,h4,h5⟩:=Nu hc;unfold Bi;rw [h1];obtain ⟨j,j1,j2,j3,j4⟩:=To L L.length 0 (Al r).1;show KW L L.length 0 (Al r).1 []=_;rw [j3 []]
 rcases j4 with ⟨j5,_⟩ | ⟨j5,j6,j7⟩
 ·rw [j5]
 ·have hh:=Vq L.length 0 _ h4 j j5;rw [hh] at j6;cases j6
theorem gN {D:Rows} {j:Nat} (h:j<D.length):AB D j∈D:=by
 unfold AB;rw [List.getD_eq_getElem?_getD,List.getElem?_eq_getElem h];exact List.getElem_mem h
theorem kz {r:Rul} {L:Rows} (hc:CM r L=0) (g:Nat→Int):oC (zs g (opn L L.length)) (Bi r L):=fun j hj=>by
 rw [X0 hc] at hj ⊢;obtain ⟨a,h1,h2,h3,h4,h5,h6⟩:=Te hc L.length (Nat.le_refl _) _ (gN hj);have om:=Ti L (show a≤L.length by omega);exact ⟨opn L a - 1,by rw [nE];omega,h4⟩
def kG (r:Rul) (L:Rows):Rows×Int:=cond (CM r L==0) (EP (zs (JE (Fu L) (CB L L.length)) (opn L L.length)) (Bi r L) (Bi r L).length,0) ([],CM r L)
end Go.Px
end
