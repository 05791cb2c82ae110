/- Part 13. -/
import Derived.Test.YtefmhiojnbekpaaGreatDoorPart12
import Derived.KernelRfl
import Derived.Test.YtefmhiojnbekpaaGreatDoorPart07
set_option linter.unusedVariables false
set_option linter.unusedSimpArgs false
section
namespace Go.Px
set_option maxRecDepth 100000
theorem bi {r:Rul} {L:Rows} (h:LL r L=0):((CX r).2==0)=true∧BQ r=0∧L.length≤4000∧acc L L.length 0 (CX r).1∧HO r L=(stM L L.length 0 (CX r).1,-1,0):=by
 unfold LL at h;cases hc:BQ r==0 with
 | false=>rw [hc] at h;rw [show BQ r=0 from h] at hc;cases hc
 | true =>
  cases hl:iLt 4000 (L.length:Int) with
  | true=>rw [hc,hl] at h;cases h
  | false =>
   cases hr:(HO r L).2.2==0 with
   | false=>rw [hc,hl,hr] at h;cases h
   | true =>
    have hn:=(l6 r).trans hc;have hrep:HO r L=Gd L L.length 0 (CX r).1:=by unfold HO;rw [hn];rfl
    obtain ⟨k,h1,h2,h3,h4⟩:=Yb L L.length 0 (CX r).1;have l4:L.length≤4000:=by simp only [iLt,decide_eq_false_iff_not] at hl;omega
    rcases h4 with ⟨h5,h6⟩ | ⟨h5,h6,h7⟩
    ·subst h5;exact ⟨hn,beq_iff_eq.1 hc,l4,h2,hrep.trans h6⟩
    ·rw [hrep,h7] at hr;rw [h6] at hr;cases hr
end Go.Px
end
section
namespace Go.Px
set_option maxRecDepth 100000
def K9 (k s p o:Int) (y:Bool) (t f n b h v:Int):List PV:=[.int k,.int s,.int p,.int o,.bool y,.int 0,.int 0,.int t,.int f,.int n,.int 0,.int b,.bool false,.int h,.int v,.int 0,.int 0,.bool false,.int 0]
def Wi:Rows:=[K9 1 1 0 0 true 0 0 0 0 0 0,K9 2 0 1 2 false 0 0 0 0 0 0,K9 8 0 2 0 false 0 0 0 0 0 0,K9 3 0 1 0 false 0 0 0 0 0 0,K9 4 0 0 0 false 1 1 1 0 0 0,K9 4 0 0 0 false 1 0 0 0 1 1,K9 2 0 2 1 false 0 0 0 0 0 0,K9 8 0 1 0 false 0 0 0 0 0 0,K9 3 0 2 0 false 0 0 0 0 0 0,K9 4 0 0 0 false 2 0 0 0 0 0,K9 4 0 0 0 false 1 1 0 4 0 0]
def Wk:Rul:=⟨⟨#[84,69,83,84]⟩,2,1,1,4,0,1,1,false,0,0,0,11,[]⟩
theorem pM:Nh 4194304 []=some [.rows Wi]:=by kernel_rfl
theorem nS:Jf 4194304 []=some Wk.ls:=by kernel_rfl
theorem BX {x:Option (List PV)} {v:List PV} {f:List PV→Option (List PV)} {r:Option (List PV)} (h:x=some v) (hk:f v=r):x.bind f=r:=by rw [h];exact hk
end Go.Px
end
section
namespace Go.Px
set_option maxRecDepth 100000
structure Up (x y:Sco):Prop where
 side:y.side=x.side
 runs:x.runs≤y.runs
 wk:x.wickets≤y.wickets
 balls:x.balls≤y.balls
theorem Up.refl (x:Sco):Up x x:=⟨rfl,Int.le_refl _,Int.le_refl _,Int.le_refl _⟩
end Go.Px
end
section
namespace Go.Px
set_option maxRecDepth 100000
def EU (x:List PV):List PV:=[.int (pvI (AA x 0)),.int (pvI (AA x 1)),.int (pvI (AA x 2)),.int (pvI (AA x 3)),.int (pvI (AA x 4)),.int (pvI (AA x 5)),.int (pvI (AA x 6)),.bool (pvB (AA x 7)),.int (pvI (AA x 8)),.int (pvI (AA x 9)),.int (pvI (AA x 10)),.int (pvI (AA x 11)),.int (pvI (AA x 12)),.bool (pvB (AA x 13)),.int (pvI (AA x 14)),.int (pvI (AA x 15)),.int (pvI (AA x 16)),.int (pvI (AA x 17)),.bool (pvB (AA x 18)),.int (pvI (AA x 19)),.int (pvI (AA x 20)),.int (pvI (AA x 21)),.int (pvI (AA x 22)),.int (pvI (AA x 23)),.int (pvI (AA x 24)),.int (pvI (AA x 25)),.bool (pvB (AA x 26)),.bool (pvB (AA x 27)),.bool (pvB (AA x 28)),.bool (pvB (AA x 29)),.int (pvI (AA x 30)),.int (pvI (AA x 31))]
def fil (k:Int):Rows→Rows
 | []=>[]
 | x::D=>cond (pvI (AA x 1)==k) (EU x::fil k D) (fil k D)
theorem iB (k:Int):∀ A B,fil k (A++B)=fil k A++fil k B
 | [],B=>rfl
 | x::A,B=>by
  show cond _ (EU x::fil k (A++B)) (fil k (A++B))=_;rw [iB k A B];show _=cond (pvI (AA x 1)==k) (EU x::fil k A) (fil k A)++fil k B;cases pvI (AA x 1)==k<;>rfl
theorem gw (k:Int):∀ D,(fil k D).length≤D.length
 | []=>Nat.le_refl _
 | x::D=>by
  have:=gw k D;show (cond (pvI (AA x 1)==k) (EU x::fil k D) (fil k D)).length≤D.length+1;cases pvI (AA x 1)==k
  ·exact Nat.le_succ_of_le this
  ·exact Nat.succ_le_succ this
theorem kw {D:Rows} {i:Nat} (h:i<D.length):D.take (i+1)=D.take i++[AF D i]:=by
 rw [List.take_add_one,List.getElem?_eq_getElem h];unfold AF;rw [List.getD_eq_getElem?_getD,List.getElem?_eq_getElem h];rfl
theorem dW {D:Rows} {i:Nat} {k:Int} (h:i<D.length):fil k (D.take (i+1))=cond (pvI (AH D i 1)==k) (fil k (D.take i)++[EU (AF D i)]) (fil k (D.take i)):=by
 rw [kw h,iB];show fil k (D.take i)++cond (pvI (AA (AF D i) 1)==k) [EU (AF D i)] []=_;show _=cond (pvI (AA (AF D i) 1)==k) _ _;cases pvI (AA (AF D i) 1)==k
 ·exact List.append_nil _
 ·rfl
structure BallF (r:Rul) (L:Rows) (a:Nat):Prop where
 one:1≤opn L a
 lnx:lnx (stM L a 0 (CX r).1).inns=opn L a - 1
 inn:IntKind.i64.wrap (((stM L a 0 (CX r).1).inns.length:Int) - 1)=((opn L a - 1:Nat):Int)
 ok:InnOk r (BZ (stM L a 0 (CX r).1))
 rules:(stM L a 0 (CX r).1).rules=r
 ref:(Mb r (BZ (stM L a 0 (CX r).1)) (evR L a).ball==0)=true
 over:(BZ (stM L a 0 (CX r).1)).complete≤1000
structure RowF (r:Rul) (x:List PV):Prop where
 over:∃ o:Nat,o≤1000∧pvI (AA x 2)=(o:Int)
 sector:∃ s:Nat,s≤8∧pvI (AA x 19)=(s:Int)
 striker:1≤pvI (AA x 5)∧pvI (AA x 5)≤r.side
 cre:∃ d,pvI (AA x 20)=(Az r d).batter∧pvI (AA x 21)=(Az r d).wides∧pvI (AA x 22)=(Az r d).noballs∧pvI (AA x 23)=(Az r d).byes∧pvI (AA x 24)=(Az r d).legbyes∧pvI (AA x 25)=(Az r d).bowler
end Go.Px
end
section
namespace Go.Px
set_option maxRecDepth 100000
def SX (r:Rul) (L:Rows) (k:Int):Rows×Int:=cond (!(LL r L==0)) ([],LL r L) (cond (iLt k 0||iLe (opn L L.length:Int) k) ([],2) (fil k (HL r L),0))
end Go.Px
end
section
namespace Go.Px
set_option maxRecDepth 100000
theorem RG {F : (List AU → Option (List PV)) → List PV → Option (List PV)} {len p : Nat} (enc : Nat → List AU) (stop fin : List PV) (hp : p ≤ len)
    (h0:p=len→∀ self,F self ((enc len).map Leaf.pv)=some fin) (h1:∀ i self,i<p→F self ((enc i).map Leaf.pv)=self (enc (i+1)))
    (h2:p<len→∀ self,F self ((enc p).map Leaf.pv)=some stop) (n:Nat) (hn:len<n) :
    Cy F n ((enc 0).map Leaf.pv)=some (cond (Nat.blt p len) stop fin):=by
  have main:∀ (k i n:Nat),i+k=p→k<n→Cy F n ((enc i).map Leaf.pv)=some (cond (Nat.blt p len) stop fin):=by
    intro k
    induction k with
    | zero =>
      intro i n hk hn;obtain ⟨n,rfl⟩:∃ m,n=m+1:=⟨n - 1,by omega⟩;obtain rfl:i=p:=by omega
      show F _ _=_
      rcases Nat.lt_or_ge i len with h | h
      · rw [h2 h,show Nat.blt i len=true from Nat.ble_eq_true_of_le h];rfl
      · obtain rfl:i=len:=by omega
        rw [h0 rfl,show Nat.blt i i=false from by
          cases hq:Nat.blt i i with
          | false=>rfl
          | true=>exact absurd (Nat.le_of_ble_eq_true hq) (by omega)]
        rfl
    | succ k ih =>
      intro i n hk hn;obtain ⟨n,rfl⟩:∃ m,n=m+1:=⟨n - 1,by omega⟩;show F _ _=_;rw [h1 i _ (by omega)];exact ih (i+1) n (by omega) (by omega)
  exact main p 0 n (by omega) (by omega)
def GX (f:Nat→Bool):Nat→Nat→Nat
 | 0,i=>i
 | k+1,i=>cond (f i) i (GX f k (i+1))
theorem Km (f:Nat→Bool):∀ k i,GX f k i≤i+k
 | 0,i=>Nat.le_refl _
 | k+1,i=>by
  show cond (f i) i (GX f k (i+1))≤_;have:=Km f k (i+1);cases f i
  ·show GX f k (i+1)≤_;omega
  ·show i≤_;omega
theorem Pu (f:Nat→Bool):∀ k i j,i≤j→j<GX f k i→f j=false
 | 0,i,j,h1,h2=>by change j<i at h2;omega
 | k+1,i,j,h1,h2=>by
  change j<cond (f i) i (GX f k (i+1)) at h2;cases hf:f i with
  | true=>rw [hf] at h2;change j<i at h2;omega
  | false =>
   rw [hf] at h2
   rcases Nat.lt_or_ge i j with h | h
   ·exact Pu f k (i+1) j h h2
   ·obtain rfl:j=i:=by omega
    exact hf
theorem Mo (f:Nat→Bool):∀ k i,GX f k i<i+k→f (GX f k i)=true
 | 0,i,h=>by change i<i at h;omega
 | k+1,i,h=>by
  change cond (f i) i (GX f k (i+1))<i+(k+1) at h;show f (cond (f i) i (GX f k (i+1)))=true;cases hf:f i with
  | true=>exact hf
  | false =>
   rw [hf] at h;change GX f k (i+1)<i+(k+1) at h;exact Mo f k (i+1) (by omega)
structure BL where
 p:Int
 b:Int
 m:Int
 r:Int
 w:Int
 wd:Int
 nb:Int
def BL.ls (s:BL):List PV:=[.int s.p,.int s.b,.int s.m,.int s.r,.int s.w,.int s.wd,.int s.nb]
def Af (xs:List BL):Rows:=xs.map BL.ls
def zBL (b m:Int):BL:=⟨b,0,m,0,0,0,0⟩
def bln (xs:List BL) (i:Nat):BL:=xs.getD i (zBL 0 0)
theorem eN (xs:List BL) (i:Nat):bln xs i=(match xs[i]? with | some s=>s | none=>zBL 0 0):=by
 unfold bln;rw [List.getD_eq_getElem?_getD];cases xs[i]?<;>rfl
theorem ZC {xs:List BL} {i:Nat} (h:i<xs.length):bln xs i=xs[i]:=by rw [eN,List.getElem?_eq_getElem h]
theorem gu (xs:List BL) (i:Nat):AF (Af xs) i=(match xs[i]? with | some s=>s.ls | none=>[]):=by
 unfold AF Af;rw [List.getD_eq_getElem?_getD,List.getElem?_map];cases xs[i]?<;>rfl
theorem Kp (xs:List BL):(Af xs).length=xs.length:=List.length_map _
theorem PXv : (∀ xs : List BL, (Af xs).length = xs.length) ∧ (∀ (xs : List BL) (i : Nat), pvI (AH (Af xs) i 0) = (bln xs i).p) ∧ (∀ (xs : List BL) (i : Nat), pvI (AH (Af xs) i 1) = (bln xs i).b) ∧ (∀ (xs : List BL) (i : Nat), pvI (AH (Af xs) i 2) = (bln xs i).m) ∧ (∀ (xs : List BL) (i : Nat), pvI (AH (Af xs) i 3) = (bln xs i).r) ∧
    (∀ (xs:List BL) (i:Nat),pvI (AH (Af xs) i 4)=(bln xs i).w)∧(∀ (xs:List BL) (i:Nat),pvI (AH (Af xs) i 5)=(bln xs i).wd)∧(∀ (xs:List BL) (i:Nat),pvI (AH (Af xs) i 6)=(bln xs i).nb):=by
  refine ⟨Kp,?_,?_,?_,?_,?_,?_,?_⟩
  all_goals (intro xs i;rw [eN];unfold AH;rw [gu];cases xs[i]?<;>rfl)
theorem I9 {xs:List BL} {i j:Nat} {v:Int} (f:BL→BL) (h:∀ s:BL,Ay s.ls j [.int v]=(f s).ls):(Af xs).set i (Ay (AF (Af xs) i) j [.int v])=Af (xs.set i (f (bln xs i))):=by
 by_cases hi:i<xs.length
 ·have e:AF (Af xs) i=(bln xs i).ls:=by rw [gu,eN,List.getElem?_eq_getElem hi]
  rw [e,h];exact List.map_set.symm
 ·rw [List.set_eq_of_length_le (by rw [Kp];omega),List.set_eq_of_length_le (by omega)]
theorem PXx : (∀ (xs : List BL) (i : Nat) (v : Int), (Af xs).set i (Ay (AF (Af xs) i) 1 [.int v]) = Af (xs.set i { bln xs i with b := v })) ∧ (∀ (xs : List BL) (i : Nat) (v : Int), (Af xs).set i (Ay (AF (Af xs) i) 2 [.int v]) = Af (xs.set i { bln xs i with m := v })) ∧
    (∀ (xs:List BL) (i:Nat) (v:Int),(Af xs).set i (Ay (AF (Af xs) i) 3 [.int v])=Af (xs.set i { bln xs i with r:=v }))∧(∀ (xs:List BL) (i:Nat) (v:Int),(Af xs).set i (Ay (AF (Af xs) i) 4 [.int v])=Af (xs.set i { bln xs i with w:=v })) ∧
    (∀ (xs:List BL) (i:Nat) (v:Int),(Af xs).set i (Ay (AF (Af xs) i) 5 [.int v])=Af (xs.set i { bln xs i with wd:=v }))∧(∀ (xs:List BL) (i:Nat) (v:Int),(Af xs).set i (Ay (AF (Af xs) i) 6 [.int v])=Af (xs.set i { bln xs i with nb:=v })) ∧
    (∀ (xs:List BL) (a b c d e f g:Int),Af xs++[([.int a,.int b,.int c,.int d,.int e,.int f,.int g]:List PV)]=Af (xs++[⟨a,b,c,d,e,f,g⟩])) :=
  ⟨fun xs i v=>I9 (j:=1) (v:=v) (fun s=>{ s with b:=v }) (fun s=>rfl),fun xs i v=>I9 (j:=2) (v:=v) (fun s=>{ s with m:=v }) (fun s=>rfl),fun xs i v=>I9 (j:=3) (v:=v) (fun s=>{ s with r:=v }) (fun s=>rfl),fun xs i v=>I9 (j:=4) (v:=v) (fun s=>{ s with w:=v }) (fun s=>rfl),fun xs i v=>I9 (j:=5) (v:=v) (fun s=>{ s with wd:=v }) (fun s=>rfl),fun xs i v=>I9 (j:=6) (v:=v) (fun s=>{ s with nb:=v }) (fun s=>rfl),
    fun xs a b c d e f g=>(List.map_append (f:=BL.ls) (l₁:=xs) (l₂:=[⟨a,b,c,d,e,f,g⟩])).symm⟩
abbrev wr6 (n:Int):Int:=IntKind.i64.wrap n
def blX (x:List PV) (md:Bool) (s:BL):BL:=⟨s.p,cond (pvB (AA x 26)) (wr6 (s.b+1)) s.b,cond md (wr6 (s.m+1)) s.m,wr6 (s.r+pvI (AA x 25)),cond (pvB (AA x 28)) (wr6 (s.w+1)) s.w,cond (pvI (AA x 8)==2) (wr6 (s.wd+1)) s.wd,cond (pvI (AA x 8)==2) s.nb (cond (pvI (AA x 8)==3) (wr6 (s.nb+1)) s.nb)⟩
def Dy (b:Int) (xs:List BL):Nat:=GX (fun j=>(bln xs j).p==b) xs.length 0
def UC (b:Int) (xs:List BL):List BL:=cond (Nat.blt (Dy b xs) xs.length) xs (xs++[zBL b 0])
def ZE (x:List PV) (md:Bool) (xs:List BL):List BL:=(UC (pvI (AA x 4)) xs).set (Dy (pvI (AA x 4)) xs) (blX x md (bln (UC (pvI (AA x 4)) xs) (Dy (pvI (AA x 4)) xs)))
def SI (md:Nat→Bool) (X:Rows):Nat→List BL
 | 0=>[]
 | i+1=>ZE (AF X i) (md i) (SI md X i)
def CB (md:Nat→Bool) (X:Rows) (b m0:Int):Nat→BL
 | 0=>zBL b m0
 | i+1=>cond (pvI (AA (AF X i) 4)==b) (blX (AF X i) (md i) (CB md X b m0 i)) (CB md X b m0 i)
def boN (X:Rows):Nat→List Int
 | 0=>[]
 | i+1=>cond ((boN X i).any (·==pvI (AA (AF X i) 4))) (boN X i) (boN X i++[pvI (AA (AF X i) 4)])
theorem hO (X:Rows):∀ i,(boN X i).length≤i
 | 0=>Nat.le_refl _
 | i+1=>by
  have:=hO X i;show (cond _ (boN X i) (boN X i++[_])).length≤i+1;cases (boN X i).any (·==pvI (AA (AF X i) 4))
  ·show (boN X i++[_]).length≤_;rw [List.length_append];exact Nat.succ_le_succ this
  ·exact Nat.le_succ_of_le this
theorem kW {l:List Int} {b:Int} (h:l.any (·==b)=false):b∉l:=fun hm=>by
 have:l.any (·==b)=true:=List.any_eq_true.2 ⟨b,hm,beq_self_eq_true b⟩;rw [h] at this;cases this
theorem cH (X:Rows):∀ i,(boN X i).Nodup
 | 0=>List.nodup_nil
 | i+1=>by
  have ih:=cH X i;show (cond _ (boN X i) (boN X i++[_])).Nodup;cases ha:(boN X i).any (·==pvI (AA (AF X i) 4)) with
  | true=>exact ih
  | false =>
   refine List.nodup_append.2 ⟨ih,List.pairwise_singleton _ _,fun x hx y hy=>?_⟩;rw [List.mem_singleton.1 hy];exact fun e=>kW ha (e▸hx)
theorem mQ (md:Nat→Bool) (X:Rows) (b m0:Int):∀ i,(CB md X b m0 i).p=b
 | 0=>rfl
 | i+1=>by
  have ih:=mQ md X b m0 i;show (cond _ (blX _ _ (CB md X b m0 i)) (CB md X b m0 i)).p=b;cases pvI (AA (AF X i) 4)==b<;>exact ih
theorem fg (md:Nat→Bool) (X:Rows) (b m0:Int):∀ i,b∉boN X i→CB md X b m0 i=zBL b m0
 | 0,_=>rfl
 | i+1,h=>by
  change b∉cond _ (boN X i) (boN X i++[_]) at h;have h1:b∉boN X i∧(pvI (AA (AF X i) 4)==b)=false:=by
   cases ha:(boN X i).any (·==pvI (AA (AF X i) 4)) with
   | true =>
    rw [ha] at h;refine ⟨h,beq_eq_false_iff_ne.2 (fun e=>h ?_)⟩;obtain ⟨y,hy,hye⟩:=List.any_eq_true.1 ha;rw [← e,← beq_iff_eq.1 hye];exact hy
   | false =>
    rw [ha] at h;have h:b∉boN X i++[_]:=h;exact ⟨fun hm=>h (List.mem_append_left _ hm),beq_eq_false_iff_ne.2 (fun e=>h (List.mem_append_right _ (by rw [e];exact List.mem_singleton.2 rfl)))⟩
  show cond _ (blX _ _ (CB md X b m0 i)) (CB md X b m0 i)=_;rw [h1.2];exact fg md X b m0 i h1.1
theorem cz {a b:Nat} (h:a<b):Nat.blt a b=true:=Nat.ble_eq_true_of_le h
theorem dC {a b:Nat} (h:¬ a<b):Nat.blt a b=false:=by
 cases hq:Nat.blt a b with
 | false=>rfl
 | true=>exact absurd (Nat.le_of_ble_eq_true hq) h
theorem gx (md:Nat→Bool) (X:Rows):∀ i,SI md X i=(boN X i).map fun b=>CB md X b 0 i
 | 0=>rfl
 | i+1=>by
  have ih:=gx md X i;have nd:=cH X i;show ZE (AF X i) (md i) (SI md X i)=(cond ((boN X i).any (·==pvI (AA (AF X i) 4))) (boN X i) (boN X i++[pvI (AA (AF X i) 4)])).map _;rw [ih];generalize hb:pvI (AA (AF X i) 4)=b;generalize hB:boN X i=B at *
  have ls1:∀ c,CB md X c 0 (i+1)=cond (b==c) (blX (AF X i) (md i) (CB md X c 0 i)) (CB md X c 0 i):=fun c=>by rw [← hb];rfl
  have hpj:∀ j (hj:j<B.length),(bln (B.map fun b=>CB md X b 0 i) j).p=B[j]:=fun j hj=>by
   rw [ZC (by rw [List.length_map];exact hj),List.getElem_map,mQ]
  have ple:=Km (fun j=>(bln (B.map fun b=>CB md X b 0 i) j).p==b) (B.map fun b=>CB md X b 0 i).length 0;have pno:=Pu (fun j=>(bln (B.map fun b=>CB md X b 0 i) j).p==b) (B.map fun b=>CB md X b 0 i).length 0;have pyes:=Mo (fun j=>(bln (B.map fun b=>CB md X b 0 i) j).p==b) (B.map fun b=>CB md X b 0 i).length 0;unfold ZE;rw [hb];change Dy b (B.map fun b=>CB md X b 0 i)≤_ at ple;change ∀ j,0≤j→j<Dy b (B.map fun b=>CB md X b 0 i)→_ at pno;change Dy b (B.map fun b=>CB md X b 0 i)<_→((bln (B.map fun b=>CB md X b 0 i) (Dy b (B.map fun b=>CB md X b 0 i))).p==b)=true at pyes;rw [Nat.zero_add,List.length_map] at ple;rw [Nat.zero_add,List.length_map] at pyes;unfold UC;rw [List.length_map];generalize Dy b (B.map fun b=>CB md X b 0 i)=p at *
  by_cases hp:p<B.length
  ·have hbp:B[p]=b:=by rw [← hpj p hp];exact beq_iff_eq.1 (pyes hp)
   have hany:B.any (·==b)=true:=List.any_eq_true.2 ⟨b,by rw [← hbp];exact List.getElem_mem hp,beq_self_eq_true b⟩;rw [cz hp,hany,cond_true,cond_true];apply List.ext_getElem
   ·simp
   ·intro j h1 h2o;have h2:j<B.length:=by rw [List.length_map] at h2o;exact h2o
    rw [List.getElem_set,show (List.map (fun b=>CB md X b 0 (i+1)) B)[j]'h2o=CB md X B[j] 0 (i+1) from List.getElem_map _,ls1]
    by_cases hj:p=j
    ·subst hj;rw [if_pos rfl,hbp,beq_self_eq_true,cond_true,ZC (by rw [List.length_map];exact hp),List.getElem_map,hbp]
    ·rw [if_neg hj,List.getElem_map];have:¬ b=B[j]:=fun e=>hj (by
      rcases Nat.lt_trichotomy p j with h | h | h
      ·exact absurd (hbp.trans e) (List.pairwise_iff_getElem.1 nd p j hp h2 h)
      ·exact h
      ·exact absurd (e.symm.trans hbp.symm) (List.pairwise_iff_getElem.1 nd j p h2 hp h))
     rw [beq_eq_false_iff_ne.2 this,cond_false]
  ·obtain rfl:p=B.length:=by omega
   have hno:b∉B:=fun hm=>by
    obtain ⟨j,hj,e⟩:=List.getElem_of_mem hm;have:=pno j (Nat.zero_le _) hj;change ((bln (B.map fun b=>CB md X b 0 i) j).p==b)=false at this;rw [hpj j hj,e,beq_self_eq_true] at this;cases this
   have hany:B.any (·==b)=false:=by
    cases h:B.any (·==b) with
    | false=>rfl
    | true =>
     obtain ⟨y,hy,hye⟩:=List.any_eq_true.1 h;exact absurd (beq_iff_eq.1 hye▸hy) hno
   have hz:CB md X b 0 i=zBL b 0:=fg md X b 0 i (by rw [hB];exact hno);rw [dC hp,hany,cond_false,cond_false,List.map_append];have hs:bln ((B.map fun b=>CB md X b 0 i)++[zBL b 0]) B.length=zBL b 0:=by
    rw [ZC (by simp),List.getElem_append_right (by simp)];simp
   rw [hs,List.set_append_right _ _ (by simp)];have e1:(B.map fun b=>CB md X b 0 (i+1))=B.map fun b=>CB md X b 0 i:=List.map_congr_left (fun c hc=>by
    rw [ls1,beq_eq_false_iff_ne.2 (fun e=>hno (by rw [e];exact hc)),cond_false])
   rw [e1];simp only [List.length_map,Nat.sub_self,List.set_cons_zero,List.map_cons,List.map_nil,ls1,beq_self_eq_true,cond_true,hz]
def Pa (X:Rows) (o b:Int) (j:Nat):Bool:=(pvI (AA (AF X j) 2)==o)&&(!(pvI (AA (AF X j) 4)==b) || !(pvI (AA (AF X j) 25)==0))
def au (X:Rows) (o:Int):Nat→Int
 | 0=>0
 | j+1=>cond ((pvI (AA (AF X j) 2)==o)&&pvB (AA (AF X j) 26)) (wr6 (au X o j+1)) (au X o j)
def mdS (bal:Int) (X:Rows) (o b:Int):Bool := !Nat.blt (GX (Pa X o b) X.length 0) X.length&&(au X o X.length==bal)
def lG (X:Rows) (i:Nat):Bool:=Nat.beq i 0 || !(pvI (AA (AF X (i - 1)) 2)==pvI (AA (AF X i) 2))
def mdA (bal:Int) (X:Rows) (i:Nat):Bool:=lG X i&&mdS bal X (pvI (AA (AF X i) 2)) (pvI (AA (AF X i) 4))
end Go.Px
end
section
namespace Go.Px
set_option maxRecDepth 100000
set_option maxHeartbeats 2000000 in
theorem QF {N:Nat} {r1 r2 r3 r4 r5 r6 r7 r9 r10 r11 r12:Int} {r8:Bool} {r0:ByteArray} {r13:Rows} {X:Rows} {o:Int} {b:Int} (hN:2097152<N) (hX:X.length≤1000000):Gl N [.str r0,.int r1,.int r2,.int r3,.int r4,.int r5,.int r6,.int r7,.bool r8,.int r9,.int r10,.int r11,.int r12,.rows r13,.rows X,.int o,.int b]=some [.bool (mdS r4 X o b)]:=by
 show Ge (std (OI N) N) (xOf _)=_;simp only [Ge,Alg.q,std,xOf,PXb];have ple:=Km (Pa X o b) X.length 0;have pno:=Pu (Pa X o b) X.length 0;have pyes:=Mo (Pa X o b) X.length 0;rw [Nat.zero_add] at ple pyes;refine AW (RG (len:=X.length) (p:=GX (Pa X o b) X.length 0) (fun i=>[.int (au X o i),.int (i:Int)]) [.int 0,.bool false] [.int 1,.int (au X o X.length)] ple ?_ ?_ ?_ N (by omega)) ?_
 ·intro _ self;simp only [PXb,PXc,PXn,AE,BI]
 ·intro i self hi;have hb:=pno i (Nat.zero_le _) hi;unfold Pa at hb;have hl:i<X.length:=by omega
  simp only [PXb,PXc,PXn,AE,CN (show i≤1099511627776 by omega),Ar hl,AX hl,AH,au];cases h1:pvI (AA (AF X i) 2)==o with
  | false=>rfl
  | true =>
   rw [h1,Bool.true_and] at hb;cases h2:pvI (AA (AF X i) 4)==b<;>cases h3:pvI (AA (AF X i) 25)==0<;>rw [h2,h3] at hb<;>first | (cases hb;done) | (cases pvB (AA (AF X i) 26)<;>rfl)
 ·intro hl self;have hb:=pyes hl;generalize GX (Pa X o b) X.length 0=p at *
  unfold Pa at hb;simp only [PXb,PXc,PXn,AE,Ar hl,AX hl,AH];cases h1:pvI (AA (AF X p) 2)==o<;>cases h2:pvI (AA (AF X p) 4)==b<;>cases h3:pvI (AA (AF X p) 25)==0<;>rw [h1,h2,h3] at hb<;>first | (cases hb;done) | rfl
 ·unfold mdS;cases Nat.blt (GX (Pa X o b) X.length 0) X.length<;>rfl
end Go.Px
end
section
namespace Go.Px
set_option maxRecDepth 100000
def YB (x:List PV):Prop:=x.length=32∧EU x=x
theorem bW {L:Rows}:∀ k i m out,(∀ x∈out,YB x)→∀ x∈Yj L k i m out,YB x
 | 0,i,m,out,h=>h
 | k+1,i,m,out,h=>by
  show ∀ x∈Yj L k (i+1) (As i m (evR L i)).1 (cond ((evR L i).kind==4) (out++[Sw i m (As i m (evR L i)).1 (evR L i).ball]) out),YB x;refine bW k (i+1) _ _ ?_;cases (evR L i).kind==4 with
  | false=>exact h
  | true =>
   intro x hx
   rcases List.mem_append.1 hx with hx | hx
   ·exact h x hx
   ·rw [List.mem_singleton.1 hx];exact ⟨rfl,rfl⟩
theorem gZ {r:Rul} {L:Rows} (hc:LL r L=0):∀ x∈HL r L,YB x:=by
 obtain ⟨h1,h2,h3,h4,h5⟩:=bi hc;have:HL r L=Yj L L.length 0 (CX r).1 []:=by
  unfold HL;rw [h1];obtain ⟨j,j1,j2,j3,j4⟩:=Yb L L.length 0 (CX r).1;show LQ L L.length 0 (CX r).1 []=_;rw [j3 []]
  rcases j4 with ⟨j5,_⟩ | ⟨j5,j6,j7⟩
  ·rw [j5]
  ·have hh:=kf L.length 0 _ h4 j j5;rw [hh] at j6;cases j6
 rw [this];exact bW _ _ _ _ (fun x hx=>absurd hx List.not_mem_nil)
theorem aN {k:Int}:∀ {A:Rows},(∀ x∈A,YB x)→(∀ x∈A,(pvI (AA x 1)==k)=true)→fil k A=A
 | [],_,_=>rfl
 | x::A,h,h1=>by
  show cond (pvI (AA x 1)==k) (EU x::fil k A) (fil k A)=_;rw [h1 x List.mem_cons_self,aN (fun y hy=>h y (List.mem_cons_of_mem _ hy)) (fun y hy=>h1 y (List.mem_cons_of_mem _ hy)),(h x List.mem_cons_self).2];rfl
theorem Vc {D:Rows} {i:Nat} (h:i<D.length):AF D i∈D:=by
 unfold AF;rw [List.getD_eq_getElem?_getD,List.getElem?_eq_getElem h];exact List.getElem_mem h
theorem gJ {D:Rows} {x:List PV} {n:Nat} (h:x∈D.take n):∃ j,j<n∧j<D.length∧x=AF D j:=by
 obtain ⟨j,hj,e⟩:=List.getElem_of_mem h;rw [List.length_take] at hj;refine ⟨j,by omega,by omega,?_⟩;rw [← e,List.getElem_take];unfold AF;rw [List.getD_eq_getElem?_getD,List.getElem?_eq_getElem (by omega)];rfl
theorem Zq:∀ (ps r:List PV) (off:Nat),r.length=off+ps.length→Ay r off ps=r.take off++ps
 | [],r,off,h=>by
  show r=_;rw [List.append_nil,List.take_of_length_le (by simpa using Nat.le_of_eq h)]
 | p::ps,r,off,h=>by
  show Ay (r.set off p) (off+1) ps=_;have hl:off<r.length:=by rw [h];simp
  rw [Zq ps (r.set off p) (off+1) (by rw [List.length_set,h];simp;omega),List.take_add_one,List.getElem?_set_self hl,List.take_set_of_le (Nat.le_refl _)];simp
theorem ga {ps r:List PV} (h:r.length=ps.length):Ay r 0 ps=ps:=by rw [Zq ps r 0 (by omega)];rfl
def dlN (D:Rows) (k:Int) (p:Nat):Nat→Rows×Nat
 | 0=>(D,p)
 | t+1=>cond (pvI (AA (AF (dlN D k p t).1 (p+1+t)) 1)==k) ((dlN D k p t).1.set (dlN D k p t).2 (EU (AF (dlN D k p t).1 (p+1+t))),(dlN D k p t).2+1) (dlN D k p t)
structure DlF (D:Rows) (k:Int) (p t:Nat):Prop where
 len:(dlN D k p t).1.length=D.length
 le:(dlN D k p t).2≤p+t
 cut:(dlN D k p t).1.take (dlN D k p t).2=fil k (D.take (p+1+t))
 rest:∀ j,p+1+t≤j→AF (dlN D k p t).1 j=AF D j
 row:∀ x∈(dlN D k p t).1,YB x
theorem oC {D:Rows} {k:Int} {p:Nat} (hD:∀ x∈D,YB x) (hp:p<D.length) (h0:∀ j,j<p→(pvI (AA (AF D j) 1)==k)=true) (h1:(pvI (AA (AF D p) 1)==k)=false):∀ t,p+1+t≤D.length→DlF D k p t
 | 0,_=>by
  refine ⟨rfl,Nat.le_refl _,?_,fun j _=>rfl,hD⟩;show D.take p=fil k (D.take (p+1));rw [dW hp,show pvI (AH D p 1)=pvI (AA (AF D p) 1) from rfl,h1,cond_false,aN (fun x hx=>hD x (List.mem_of_mem_take hx)) (fun x hx=>by
   obtain ⟨j,h2,h3,rfl⟩:=gJ hx;exact h0 j h2)]
 | t+1,ht=>by
  obtain ⟨f1,f2,f3,f4,f5⟩:=oC hD hp h0 h1 t (by omega);have hj:p+1+t<D.length:=by omega
  have hr:=f4 (p+1+t) (Nat.le_refl _);have ft:=dW (k:=k) hj;rw [show pvI (AH D (p+1+t) 1)=pvI (AA (AF D (p+1+t)) 1) from rfl] at ft;have e:dlN D k p (t+1)=cond (pvI (AA (AF D (p+1+t)) 1)==k) ((dlN D k p t).1.set (dlN D k p t).2 (EU (AF D (p+1+t))),(dlN D k p t).2+1) (dlN D k p t):=by rw [← hr];rfl
  cases hk:pvI (AA (AF D (p+1+t)) 1)==k with
  | false =>
   rw [hk,cond_false] at e ft;exact ⟨by rw [e];exact f1,by rw [e];omega,by rw [e,f3,show p+1+(t+1)=p+1+t+1 by omega,ft],fun j hj2=>by rw [e];exact f4 j (by omega),by rw [e];exact f5⟩
  | true =>
   rw [hk,cond_true] at e ft;have hl:(dlN D k p t).2<(dlN D k p t).1.length:=by omega
   refine ⟨by rw [e];show (List.set _ _ _).length=_;rw [List.length_set];exact f1,by rw [e];show (dlN D k p t).2+1≤_;omega,?_,fun j hj2=>?_,?_⟩
   ·rw [e,show p+1+(t+1)=p+1+t+1 by omega,ft,← f3];show ((dlN D k p t).1.set (dlN D k p t).2 _).take ((dlN D k p t).2+1)=_;rw [List.take_add_one,List.getElem?_set_self hl,List.take_set_of_le (Nat.le_refl _)];rfl
   ·rw [e,← f4 j (by omega)];show AF ((dlN D k p t).1.set (dlN D k p t).2 _) j=_;unfold AF;simp only [List.getD_eq_getElem?_getD,List.getElem?_set_ne (show (dlN D k p t).2≠j by omega)]
   ·rw [e];intro x hx
    rcases List.mem_or_eq_of_mem_set hx with h | h
    ·exact f5 x h
    ·have:=hD _ (Vc hj);rw [h,this.2];exact this
def Vr (r:Rul) (L:Rows) (k:Int):Rows×Int:=cond ((SX r L k).2==0) (Af (SI (mdA r.balls (SX r L k).1) (SX r L k).1 (SX r L k).1.length),0) ([],(SX r L k).2)
def mg (x:List PV):List AU:=[.int (pvI (AA x 0)),.int (pvI (AA x 1)),.int (pvI (AA x 2)),.int (pvI (AA x 3)),.int (pvI (AA x 4)),.int (pvI (AA x 5)),.int (pvI (AA x 6)),.bool (pvB (AA x 7)),.int (pvI (AA x 8)),.int (pvI (AA x 9)),.int (pvI (AA x 10)),.int (pvI (AA x 11)),.int (pvI (AA x 12)),.bool (pvB (AA x 13)),.int (pvI (AA x 14)),.int (pvI (AA x 15)),.int (pvI (AA x 16)),.int (pvI (AA x 17)),.bool (pvB (AA x 18)),.int (pvI (AA x 19)),.int (pvI (AA x 20)),.int (pvI (AA x 21)),.int (pvI (AA x 22)),.int (pvI (AA x 23)),.int (pvI (AA x 24)),.int (pvI (AA x 25)),.bool (pvB (AA x 26)),.bool (pvB (AA x 27)),.bool (pvB (AA x 28)),.bool (pvB (AA x 29)),.int (pvI (AA x 30)),.int (pvI (AA x 31))]
theorem mz {ys:List BL} {p:Nat} (h:p<ys.length) (s:BL):bln (ys.set p s) p=s:=by rw [ZC (by rw [List.length_set];exact h),List.getElem_set_self]
theorem nR (b:Int) (xs:List BL):Dy b xs<(UC b xs).length∧(UC b xs).length≤xs.length+1:=by
 have ple:=Km (fun j=>(bln xs j).p==b) xs.length 0;rw [Nat.zero_add] at ple;change Dy b xs≤xs.length at ple;unfold UC
 by_cases h:Dy b xs<xs.length
 ·rw [cz h,cond_true];exact ⟨h,Nat.le_succ _⟩
 ·rw [dC h,cond_false,List.length_append];exact ⟨by simp only [List.length_cons,List.length_nil];omega,Nat.le_refl _⟩
theorem PXw:(∀ (xs:List BL) (i:Nat),pvI (AA (AF (Af xs) i) 0)=(bln xs i).p)∧(∀ (xs:List BL) (i:Nat),pvI (AA (AF (Af xs) i) 1)=(bln xs i).b)∧(∀ (xs:List BL) (i:Nat),pvI (AA (AF (Af xs) i) 2)=(bln xs i).m)∧(∀ (xs:List BL) (i:Nat),pvI (AA (AF (Af xs) i) 3)=(bln xs i).r)∧(∀ (xs:List BL) (i:Nat),pvI (AA (AF (Af xs) i) 4)=(bln xs i).w)∧(∀ (xs:List BL) (i:Nat),pvI (AA (AF (Af xs) i) 5)=(bln xs i).wd)∧(∀ (xs:List BL) (i:Nat),pvI (AA (AF (Af xs) i) 6)=(bln xs i).nb):=PXv.2
theorem oI {N : Nat} (hN : 2097152 < N) {xs : List BL} (hx : xs.length ≤ 1000000) {b : Int} {J : List AU} {F : (List AU → Option (List PV)) → List PV → Option (List PV)}
    (h0:∀ self,F self (.int (xs.length:Int)::J.map Leaf.pv)=some (.int 1::J.map Leaf.pv)) (h1:∀ i self,i<xs.length→F self (.int (i:Int)::J.map Leaf.pv)=cond ((bln xs i).p==b) (some (.int 0::.int (i:Int)::J.map Leaf.pv)) (self (.int ((i+1:Nat):Int)::J))) :
    Cy F N (.int 0::J.map Leaf.pv)=some (cond (Nat.blt (Dy b xs) xs.length) (.int 0::.int (Dy b xs:Int)::J.map Leaf.pv) (.int 1::J.map Leaf.pv)):=by
  have ple:=Km (fun j=>(bln xs j).p==b) xs.length 0;have pno:=Pu (fun j=>(bln xs j).p==b) xs.length 0;have pyes:=Mo (fun j=>(bln xs j).p==b) xs.length 0;rw [Nat.zero_add] at ple pyes;have:=RG (F:=F) (len:=xs.length) (p:=Dy b xs) (fun i=>.int (i:Int)::J) (.int 0::.int (Dy b xs:Int)::J.map Leaf.pv) (.int 1::J.map Leaf.pv) ple (fun _ self=>h0 self) (fun i self hi=>by
    have:=h1 i self (Nat.lt_of_lt_of_le hi ple);rw [show ((bln xs i).p==b)=false from pno i (Nat.zero_le _) hi] at this;exact this) (fun hl self=>by
    have:=h1 (Dy b xs) self hl;rw [show ((bln xs (Dy b xs)).p==b)=true from pyes hl] at this;exact this) N (by omega)
  exact this
set_option maxHeartbeats 8000000 in
theorem Wu {N:Nat} {r1 r2 r3 r4 r5 r6 r7 r9 r10 r11 r12:Int} {r8:Bool} {r0:ByteArray} {r13:Rows} {L:Rows} {k:Int} (hN:2097152<N) (hs:r0.size≤1048576) (h13:r13.length≤1048576) (hL:L.length≤1000000):B4 N [.str r0,.int r1,.int r2,.int r3,.int r4,.int r5,.int r6,.int r7,.bool r8,.int r9,.int r10,.int r11,.int r12,.rows r13,.rows L,.int k]=some [.rows (Vr (⟨r0,r1,r2,r3,r4,r5,r6,r7,r8,r9,r10,r11,r12,r13⟩:Rul) L k).1,.int (Vr (⟨r0,r1,r2,r3,r4,r5,r6,r7,r8,r9,r10,r11,r12,r13⟩:Rul) L k).2]:=by
 show Dh (std (BF N) N) (xOf _)=_;generalize hres:(some [.rows (Vr (⟨r0,r1,r2,r3,r4,r5,r6,r7,r8,r9,r10,r11,r12,r13⟩:Rul) L k).1,.int (Vr (⟨r0,r1,r2,r3,r4,r5,r6,r7,r8,r9,r10,r11,r12,r13⟩:Rul) L k).2]:Option (List PV))=RR;have hl:L.length≤1048576:=by omega
 simp only [Dh,OH,LA,OL,Ke,Alg.q,std,xOf,PXb,f0 hN hs h13 hl,aE hN hl,Ys hN hs h13 hl,fc,PXc];subst hres;simp only [Vr,SX];cases hc:LL (⟨r0,r1,r2,r3,r4,r5,r6,r7,r8,r9,r10,r11,r12,r13⟩:Rul) L==0 with
 | false=>simp only [PXb,Bool.not_false,hc]
 | true =>
  have c0:=beq_iff_eq.1 hc;have pl:=iR (⟨r0,r1,r2,r3,r4,r5,r6,r7,r8,r9,r10,r11,r12,r13⟩:Rul) L;have l4:=(bi c0).2.2.1;have rd:=gZ c0;cases h0:iLt k 0 with
  | true=>rfl
  | false =>
   simp only [PXb,Bool.not_true,Bool.not_false,PXp,aV];cases h1:iLe (opn L L.length:Int) k with
   | true=>rfl
   | false =>
    simp only [PXb];generalize HL (⟨r0,r1,r2,r3,r4,r5,r6,r7,r8,r9,r10,r11,r12,r13⟩:Rul) L=D at *
    have ple:=Km (fun j => !(pvI (AA (AF D j) 1)==k)) D.length 0;have pno:=Pu (fun j => !(pvI (AA (AF D j) 1)==k)) D.length 0;have pyes:=Mo (fun j => !(pvI (AA (AF D j) 1)==k)) D.length 0;rw [Nat.zero_add] at ple pyes;generalize GX (fun j => !(pvI (AA (AF D j) 1)==k)) D.length 0=p at *
    refine BX (v:=[.rows (fil k D),.int k]) ?_ ?_
    ·refine BX (v:=[.int (cond (Nat.blt p D.length) (p:Int) (-1)),.int k]) ?_ ?_
     ·refine AW (RG (len:=D.length) (p:=p) (fun i=>[.int (i:Int),.int k]) [.int 0,.int (p:Int),.int k] [.int 1,.int k] ple ?_ ?_ ?_ N (by omega)) ?_
      ·intro _ self;simp only [PXb,PXc,PXn,AE,BI]
      ·intro i self hi;have hb:=pno i (Nat.zero_le _) hi;have hl2:i<D.length:=by omega
       simp only [PXb,PXc,PXn,AE,CN (show i≤1099511627776 by omega),Ar hl2,AX hl2,AH,hb]
      ·intro hl2 self;have hb:=pyes hl2;simp only [PXb,PXc,PXn,AE,Ar hl2,AX hl2,AH,hb]
      ·cases Nat.blt p D.length<;>rfl
     ·by_cases hp:p<D.length
      ·have f:=oC rd hp (fun j hj=>by
        have:=pno j (Nat.zero_le _) hj
        rwa [Bool.not_eq_false'] at this) (by
        have:=pyes hp
        rwa [Bool.not_eq_true'] at this)
       have pm:((p:Int) == -1)=false:=beq_eq_false_iff_ne.2 (by omega);have e9:p+1+(D.length - (p+1))=D.length:=by omega
       simp only [PXb,cz hp,pm,CN (show p≤1099511627776 by omega)];refine AW (DY (len:=D.length - (p+1)) (fun t=>[.rows (dlN D k p t).1,.int ((dlN D k p t).2:Int),.int ((p+1+t:Nat):Int),.int k]) [.rows (dlN D k p (D.length - (p+1))).1,.int ((dlN D k p (D.length - (p+1))).2:Int),.int k] ?_ ?_ N (by omega)) ?_
       ·intro self;have fl:=(f (D.length - (p+1)) (by omega)).len;have el:(dlN D k p (D.length - (p+1))).1.length=p+1+(D.length - (p+1)):=by omega
        simp only [PXb,PXc,PXn,AE,el,BI]
       ·intro t self ht;obtain ⟨f1,f2,f3,f4,f5⟩:=f t (by omega);have hj:p+1+t<(dlN D k p t).1.length:=by omega
        have hi:(dlN D k p t).2<(dlN D k p t).1.length:=by omega
        have rl:=(f5 _ (Vc hi)).1;have rj:=(f5 _ (Vc hj)).1;have e:dlN D k p (t+1)=cond (pvI (AA (AF (dlN D k p t).1 (p+1+t)) 1)==k) ((dlN D k p t).1.set (dlN D k p t).2 (EU (AF (dlN D k p t).1 (p+1+t))),(dlN D k p t).2+1) (dlN D k p t):=rfl;have pf:Ay (AF (dlN D k p t).1 (dlN D k p t).2) 0 (EU (AF (dlN D k p t).1 (p+1+t)))=EU (AF (dlN D k p t).1 (p+1+t)):=ga (by rw [rl];rfl);rw [e];generalize dlN D k p t=q at *
        simp only [PXb,PXc,PXn,AE,Ar hj,AX hj,AX hi,CN (show p+1+t≤1099511627776 by omega),CN (show q.2≤1099511627776 by omega),AH,Int.toNat_natCast];cases pvI (AA (AF q.1 (p+1+t)) 1)==k with
        | false=>rfl
        | true =>
         refine congrArg self ?_;refine congrArg (fun z:Rows=>([Leaf.rows z,.int ((q.2+1:Nat):Int),.int ((p+1+t+1:Nat):Int),.int k]:List AU)) ?_;exact congrArg (fun z=>List.set q.1 q.2 z) pf
       ·obtain ⟨f1,f2,f3,f4,f5⟩:=f (D.length - (p+1)) (by omega);rw [e9,List.take_length] at f3;generalize dlN D k p (D.length - (p+1))=q at *
        have g1:iRg (q.2:Int) (q.1.length:Int) (q.1.length:Int)=true:=by simp only [iRg,decide_eq_true_eq];omega
        have t1:∀ z:List PV,(List.drop (Int.toNat 0) (List.take q.2 q.1)++List.replicate (List.drop q.2 (List.take q.1.length q.1)).length z).take q.2=fil k D:=fun z=>by
         rw [← f3];show List.take q.2 (List.take q.2 q.1++_)=_;rw [List.take_append_of_le_length (by rw [List.length_take];omega),List.take_take,Nat.min_self]
        have t2:∀ z:List PV,iRg 0 (q.2:Int) (((List.drop (Int.toNat 0) (List.take q.2 q.1)++List.replicate (List.drop q.2 (List.take q.1.length q.1)).length z).length:Nat):Int)=true:=fun z=>by
         simp only [iRg,decide_eq_true_eq,List.length_append,List.length_drop,List.length_take];have:(Int.toNat 0)=0:=rfl;omega
        simp only [PXb,PXc,PXn,AE,g1,Int.toNat_natCast,t1,t2];rfl
      ·have pe:p=D.length:=by omega
       have fa:fil k D=D:=aN rd (fun x hx=>by
        obtain ⟨j,hj,e⟩:=List.getElem_of_mem hx;have:=pno j (Nat.zero_le _) (by omega);rw [Bool.not_eq_false'] at this;rw [← e];unfold AF at this
        rwa [List.getD_eq_getElem?_getD,List.getElem?_eq_getElem hj] at this)
       have pm:((-1:Int) == -1)=true:=rfl;simp only [PXb,dC hp,pm,fa]
    ·have X4:(fil k D).length≤1000000:=Nat.le_trans (gw k D) (by omega);generalize fil k D=X at *
     simp only [PXb];refine AW (DY (len:=X.length) (fun i=>[.rows (Af (SI (mdA r4 X) X i)),.int (i:Int)]) [.rows (Af (SI (mdA r4 X) X X.length))] ?_ ?_ N (by omega)) rfl
     ·intro self;simp only [PXb,PXc,PXn,AE,BI]
     ·intro i self hi;have e:SI (mdA r4 X) X (i+1)=ZE (AF X i) (mdA r4 X i) (SI (mdA r4 X) X i):=rfl;have ln:(SI (mdA r4 X) X i).length≤i:=by rw [gx,List.length_map];exact hO X i
      rw [e];generalize SI (mdA r4 X) X i=xs at *
      simp only [PXb,PXc,PXn,AE,Ar hi,AX hi,AH];have hnew:lG X i=(Nat.beq i 0 || !(pvI (AA (AF X (i - 1)) 2)==pvI (AA (AF X i) 2))):=rfl;have hmd:mdA r4 X i=(lG X i&&mdS r4 X (pvI (AA (AF X i) 2)) (pvI (AA (AF X i) 4))):=rfl;rw [hmd,hnew];generalize AF X i=x at *
      obtain ⟨pa1,pa2⟩:=nR (pvI (AA x 4)) xs;refine BX (v:=.int (cond (Nat.blt (Dy (pvI (AA x 4)) xs) xs.length) (Dy (pvI (AA x 4)) xs:Int) (-1))::EU x) ?_ ?_
      ·refine AW (oI hN (show xs.length≤1000000 by omega) (b:=pvI (AA x 4)) (J:=mg x) ?_ ?_) ?_
       ·intro self;simp only [PXb,PXc,PXn,AE,PXv,BI];rfl
       ·intro j self hj;simp only [PXb,PXc,PXn,AE,PXw,CN (show j≤1099511627776 by omega),Ar (show j<(Af xs).length by rw [Kp];exact hj),AX (show j<(Af xs).length by rw [Kp];exact hj),mg]
       ·cases Nat.blt (Dy (pvI (AA x 4)) xs) xs.length<;>rfl
      ·refine BX (v:=[.rows (Af (UC (pvI (AA x 4)) xs)),.int (Dy (pvI (AA x 4)) xs:Int)]) ?_ ?_
       ·have ple:=Km (fun j=>(bln xs j).p==pvI (AA x 4)) xs.length 0;rw [Nat.zero_add] at ple;change Dy (pvI (AA x 4)) xs≤xs.length at ple;unfold UC;simp only [PXb,PXc,PXn,AE,EU];generalize Dy (pvI (AA x 4)) xs=q at *
        by_cases hq:q<xs.length
        ·have q0:iLt (q:Int) 0=false:=by simp only [iLt,decide_eq_false_iff_not];omega
         simp only [cz hq,cond_true,q0,cond_false]
        ·obtain rfl:q=xs.length:=by omega
         have q0:iLt (-1) 0=true:=rfl;have sm:iSm ((xs.length+1:Nat):Int) 56=true:=Fp (by omega) (by omega);have w1:IntKind.i64.wrap (((xs.length+1:Nat):Int) - 1)=(xs.length:Int):=by rw [Dn (by omega) (by omega)];omega
         simp only [dC hq,cond_false,q0,cond_true,Kp,List.length_append,List.length_cons,List.length_nil,Nat.zero_add,sm,w1,PXx];rfl
       ·unfold ZE;generalize UC (pvI (AA x 4)) xs=ys at *
        generalize Dy (pvI (AA x 4)) xs=q at *
        have iq:iIn (q:Int) ((Af ys).length:Int)=true:=by rw [Kp];exact AX pa1
        have bs:=fun s=>mz pa1 s
        have hz:((i:Int)==0)=Nat.beq i 0:=by
         cases i with
         | zero=>rfl
         | succ i=>exact beq_eq_false_iff_ne.2 (by omega)
        have hw:Nat.beq i 0=false→IntKind.i64.wrap ((i:Int) - 1)=((i - 1:Nat):Int)∧iIn ((i - 1:Nat):Int) (X.length:Int)=true:=fun h=>by
         have:i≠0:=fun e=>by rw [e] at h;cases h
         exact ⟨by rw [Dn (by omega) (by omega)];omega,AX (by omega)⟩
        have fin:∀ {K:Option (List PV)} {y z:BL},K=self [.rows (Af (ys.set q y)),.int ((i+1:Nat):Int)]→y=z→K=self [.rows (Af (ys.set q z)),.int ((i+1:Nat):Int)]:=fun {K y z} h e=>by rw [h,e]
        unfold blX;have wi:IntKind.i64.wrap ((i:Int)+1)=((i+1:Nat):Int):=CN (show i≤1099511627776 by omega);cases hn:Nat.beq i 0 with
        | true =>
         cases hct:pvB (AA x 26)<;>cases hwk:pvB (AA x 28)<;>cases ht2:pvI (AA x 8)==2<;>cases ht3:pvI (AA x 8)==3<;>simp only [PXb,PXc,PXn,AE,EU,iq,PXx,PXw,Int.toNat_natCast,bs,List.set_set,hct,hwk,ht2,ht3,hz,hn,wi]<;>(refine BX (QF hN X4) ?_;cases mdS r4 X (pvI (AA x 2)) (pvI (AA x 4))<;>rfl)
        | false =>
         obtain ⟨w1,w2⟩:=hw hn;cases ho:pvI (AA (AF X (i - 1)) 2)==pvI (AA x 2) with
         | true =>
          cases hct:pvB (AA x 26)<;>cases hwk:pvB (AA x 28)<;>cases ht2:pvI (AA x 8)==2<;>cases ht3:pvI (AA x 8)==3<;>simp only [PXb,PXc,PXn,AE,EU,iq,PXx,PXw,Int.toNat_natCast,bs,List.set_set,hct,hwk,ht2,ht3,hz,hn,wi,w1,w2,ho]<;>rfl
         | false =>
          cases hct:pvB (AA x 26)<;>cases hwk:pvB (AA x 28)<;>cases ht2:pvI (AA x 8)==2<;>cases ht3:pvI (AA x 8)==3<;>simp only [PXb,PXc,PXn,AE,EU,iq,PXx,PXw,Int.toNat_natCast,bs,List.set_set,hct,hwk,ht2,ht3,hz,hn,wi,w1,w2,ho]<;>(refine BX (QF hN X4) ?_;cases mdS r4 X (pvI (AA x 2)) (pvI (AA x 4))<;>rfl)
end Go.Px
end
section
namespace Go.Px
set_option maxRecDepth 100000
theorem pL:Vr Wk Wi 1=(Af [⟨2,1,0,5,0,1,0⟩],0):=by kernel_rfl
theorem oV:CS 4194304 [.int 2,.int 1,.int 0,.int 5,.int 0,.int 1,.int 0,.int 4]=some [.str ⟨#[48,46,49,45,48,45,53,45,48]⟩,.int 0]:=by kernel_rfl
theorem oT:Bk 4194304 [.int 2,.int 1,.int 0,.int 5,.int 0,.int 1,.int 0,.int 4]=some [.int 20,.int 1,.int 0]:=by kernel_rfl
set_option maxHeartbeats 2000000 in
theorem gm:JV 4194304 []=some [.bool true]:=by
 have hs:Wk.name.size≤1048576:=by decide
 have hl:Wi.length≤1000000:=by decide
 have hN:2097152<4194304:=by omega
 have k1:B4 4194304 (Wk.ls++[.rows Wi,.int 1])=some [.rows (Vr Wk Wi 1).1,.int (Vr Wk Wi 1).2]:=Wu hN hs (Nat.zero_le _) hl;rw [pL] at k1;obtain ⟨xs,hxs⟩:∃ xs:List BL,xs=[⟨2,1,0,5,0,1,0⟩]:=⟨_,rfl⟩;rw [← hxs] at k1;have i1:iIn 0 ((Af xs).length:Int)=true:=by rw [hxs];rfl
 have i2:(((Af xs).length:Int)==1)=true:=by rw [hxs];rfl
 have z0:(0:Int).toNat=0:=rfl;have e0:pvI (AH (Af xs) 0 0)=2:=by rw [hxs];rfl
 have e1:pvI (AH (Af xs) 0 1)=1:=by rw [hxs];rfl
 have e2:pvI (AH (Af xs) 0 2)=0:=by rw [hxs];rfl
 have e3:pvI (AH (Af xs) 0 3)=5:=by rw [hxs];rfl
 have e4:pvI (AH (Af xs) 0 4)=0:=by rw [hxs];rfl
 have e5:pvI (AH (Af xs) 0 5)=1:=by rw [hxs];rfl
 have e6:pvI (AH (Af xs) 0 6)=0:=by rw [hxs];rfl
 show NL (std (DV 4194304) 4194304) (xOf [])=_;simp only [NL,Nt,QJ,Nl,Sx,Uu,Alg.q,std,xOf,PXb,pM,nS];refine BX k1 ?_;simp only [PXb,PXc,PXn,AE,Nat.reduceAdd,z0,i1,i2,e0,e1,e2,e3,e4,e5,e6];have cb:(!(0:Int)==0||(!(2:Int)==2||(!(1:Int)==1||(!(0:Int)==0||(!(5:Int)==5||(!(0:Int)==0||(!(1:Int)==1 || !(0:Int)==0)))))))=false:=by decide
 rw [cb,cond_false];refine BX oV ?_;simp only [PXb,PXc,PXn,AE,Nat.reduceAdd,z0,i1,i2,e0,e1,e2,e3,e4,e5,e6];refine BX oT ?_;simp only [PXb,PXc,PXn,AE,beq_self_eq_true]
end Go.Px
end
section
namespace Go.Px
set_option maxRecDepth 100000
theorem ek {F : (List AU → Option (List PV)) → List PV → Option (List PV)} (h0 : ∀ (a : Nat) self, F self [.int (a : Int), .int 0] = some [.int (a : Int)])
    (h1:∀ (a b:Nat) self,0<b→F self [.int (a:Int),.int (b:Int)]=self [.int (b:Int),.int ((a % b:Nat):Int)]):∀ (b a n:Nat),b<n→Cy F n [.int (a:Int),.int (b:Int)]=some [.int ((Nat.gcd a b:Nat):Int)]:=by
  intro b
  induction b using Nat.strongRecOn with
  | _ b ih =>
    intro a n hn;obtain ⟨n,rfl⟩:∃ m,n=m+1:=⟨n - 1,by omega⟩;show F _ _=_
    by_cases hb:b=0
    · subst hb;rw [show ((0:Nat):Int)=0 from rfl,h0,Nat.gcd_zero_right]
    · have hlt:=Nat.mod_lt a (show 0<b by omega);rw [h1 a b _ (by omega)];show Cy F n [.int (b:Int),.int ((a % b:Nat):Int)]=_;rw [ih (a % b) hlt b n (by omega),Nat.gcd_comm b,← Nat.gcd_rec,Nat.gcd_comm b a]
theorem lk {a:Nat} (h:a≤1000000000):cond (iLt (a:Int) (IntKind.i64.wrap (0 - (a:Int)))) (IntKind.i64.wrap (0 - (a:Int))) (a:Int)=(a:Int):=by
 rw [Dn (by omega) (by omega)];have:iLt (a:Int) (0 - (a:Int))=false:=by simp only [iLt,decide_eq_false_iff_not];omega
 rw [this];rfl
theorem Qa {N a:Nat} (h:a≤1000000000):DA N [.int (a:Int)]=some [.int (a:Int)]:=by
 show L7 (std (Sd N) N) (xOf _)=_;simp only [L7,Alg.q,std,xOf,PXb];rw [lk h]
theorem Td {a:Nat}:((a:Int) == -9223372036854775808)=false:=beq_eq_false_iff_ne.2 (by omega)
theorem gA {N a b:Nat} (hN:2097152<N) (ha:a≤1000000000) (hb:b≤2000000):Js N [.int (a:Int),.int (b:Int)]=some [.int ((Nat.gcd a b:Nat):Int)]:=by
 show Nb (std (Oh N) N) (xOf _)=_;simp only [Nb,SL,Alg.q,std,xOf,PXb,Qa ha,Qa (show b≤1000000000 by omega),Td];refine AW (ek ?_ ?_ b a N (by omega)) rfl
 ·intro a self;simp only [PXb,PXc,PXn,AE,beq_self_eq_true,Bool.not_true]
 ·intro a b self hb;have:((b:Int)==0)=false:=beq_eq_false_iff_ne.2 (by omega);simp only [PXb,PXc,PXn,AE,this];rfl
theorem bh {N a b:Nat} (hN:2097152<N) (ha:a≤1000000000) (hb:b≤2000000):GR N [.int (a:Int),.int (b:Int)]=some [.int ((Nat.gcd a b:Nat):Int)]:=by
 show Rm (std (Rz N) N) (xOf _)=_;have sz:∀ {a:Nat},a≤1000000000→L4 N [.int (a:Int)]=some [.int (a:Int)]:=fun {a} h=>by
  show Pm (std (Vf N) N) (xOf _)=_;have z:iLt (a:Int) 0=false:=by simp only [iLt,decide_eq_false_iff_not];omega
  simp only [Pm,Alg.q,std,xOf,PXb,z]
 simp only [Rm,Vw,Alg.q,std,xOf,PXb,sz ha,sz (show b≤1000000000 by omega),Td];refine AW (ek ?_ ?_ b a N (by omega)) rfl
 ·intro a self;simp only [PXb,PXc,PXn,AE,beq_self_eq_true,Bool.not_true]
 ·intro a b self hb;have:((b:Int)==0)=false:=beq_eq_false_iff_ne.2 (by omega);simp only [PXb,PXc,PXn,AE,this];rfl
def mkS (n d:Nat):List PV:=[.int ((n / Nat.gcd n d:Nat):Int),.int ((d / Nat.gcd n d:Nat):Int),.int 0]
theorem bn {n d:Nat} (hd:0<d):0<Nat.gcd n d∧0<d / Nat.gcd n d∧d / Nat.gcd n d≤d∧n / Nat.gcd n d≤n∧Nat.gcd (n / Nat.gcd n d) (d / Nat.gcd n d)=1:=by
 have hg:=Nat.gcd_pos_of_pos_right n hd;refine ⟨hg,Nat.div_pos (Nat.le_of_dvd hd (Nat.gcd_dvd_right n d)) hg,Nat.div_le_self _ _,Nat.div_le_self _ _,?_⟩;rw [Nat.gcd_div (Nat.gcd_dvd_left n d) (Nat.gcd_dvd_right n d),Nat.div_self hg]
theorem Ps {a b:Nat} (ha:a≤1000000000):IntKind.i64.wrap (Int.tdiv (a:Int) (b:Int))=((a / b:Nat):Int):=by
 show IntKind.i64.wrap ((a / b:Nat):Int)=_;have:=Nat.div_le_self a b;generalize a / b=q at *
 exact Dn (by omega) (by omega)
set_option maxHeartbeats 2000000 in
theorem de {N n d:Nat} (hN:2097152<N) (hn:n≤1000000000) (hd:0<d) (hd2:d≤2000000):H8 N [.int (n:Int),.int (d:Int)]=some (mkS n d):=by
 show LH (std (Is N) N) (xOf _)=_;have d0:((d:Int)==0)=false:=beq_eq_false_iff_ne.2 (by omega);obtain ⟨g1,g2,g3,g4,g5⟩:=bn (n:=n) hd;have g0:(((Nat.gcd n d:Nat):Int)==0)=false:=beq_eq_false_iff_ne.2 (by omega);simp only [LH,Rw,JG,Alg.q,std,xOf,PXb,gA hN hn hd2,Td,d0];have c1:iLt ((d / Nat.gcd n d:Nat):Int) 0=false:=by simp only [iLt,decide_eq_false_iff_not];omega
 have c2:iLt 2147483648 ((d / Nat.gcd n d:Nat):Int)=false:=by simp only [iLt,decide_eq_false_iff_not];omega
 have c3:iLt 2147483648 ((n / Nat.gcd n d:Nat):Int)=false:=by simp only [iLt,decide_eq_false_iff_not];omega
 simp only [PXb,g0,Ps hn,Ps (show d≤1000000000 by omega),c1,c2,c3,Bool.not_false,JG,Qa (show n / Nat.gcd n d≤1000000000 by omega)];rfl
set_option maxHeartbeats 2000000 in
theorem iP {N n d:Nat} (hN:2097152<N) (hn:n≤1000000000) (hd:0<d) (hd2:d≤2000000):LB N [.int (n:Int),.int (d:Int)]=some (mkS n d):=by
 show PH (std (LX N) N) (xOf _)=_;have d0:((d:Int)==0)=false:=beq_eq_false_iff_ne.2 (by omega);obtain ⟨g1,g2,g3,g4,g5⟩:=bn (n:=n) hd;have g0:(((Nat.gcd n d:Nat):Int)==0)=false:=beq_eq_false_iff_ne.2 (by omega);have d1:iLt (d:Int) 0=false:=by simp only [iLt,decide_eq_false_iff_not];omega
 have V:JW N [.int ((n / Nat.gcd n d:Nat):Int),.int ((d / Nat.gcd n d:Nat):Int)]=some [.bool true]:=by
  show NY (std (Og N) N) (xOf _)=_;have c1:iLe 1 ((d / Nat.gcd n d:Nat):Int)=true:=by simp only [iLe,decide_eq_true_eq];omega
  have c2:iLe ((d / Nat.gcd n d:Nat):Int) 2147483648=true:=by simp only [iLe,decide_eq_true_eq];omega
  have c3:iLe (-2147483648) ((n / Nat.gcd n d:Nat):Int)=true:=by
   generalize n / Nat.gcd n d=q;simp only [iLe,decide_eq_true_eq];omega
  have c4:iLe ((n / Nat.gcd n d:Nat):Int) 2147483648=true:=by simp only [iLe,decide_eq_true_eq];omega
  have G:=bh (N:=N) hN (show n / Nat.gcd n d≤1000000000 by omega) (show d / Nat.gcd n d≤2000000 by omega);rw [g5] at G;simp only [NY,Ux,Alg.q,std,xOf,PXb,c1,c2,c3,c4,G];rfl
 simp only [PH,N3,LP,Alg.q,std,xOf,PXb,Td,d0,d1];simp only [PXb,N3,bh hN hn hd2,g0,Ps hn,Ps (show d≤1000000000 by omega),Bool.not_false,LP,V];rfl
def CU (n:Nat):ByteArray:=⟨(Lib.decDigits n).toArray⟩
theorem nL:∀ u:Nat,(Lib.decDigits u).length≤u+1:=by
 intro u
 induction u using Nat.strongRecOn with
 | _ u ih =>
  rw [Lib.decDigits]
  by_cases h:u<10
  ·rw [dif_pos h];simp
  ·rw [dif_neg h,List.length_append];have:=ih (u / 10) (by omega);simp only [List.length_cons,List.length_nil];omega
theorem Cd {n:Nat} (h:n≤1000000):(CU n).size≤1000001:=by
 have:=nL n;show (Lib.decDigits n).toArray.size≤_;rw [List.size_toArray];omega
theorem lw (d:UInt8) (l:List UInt8):(⟨#[d]⟩++⟨l.toArray⟩:ByteArray)=⟨(d::l).toArray⟩:=by
 apply ByteArray.ext;simp
theorem j0 {F : (List AU → Option (List PV)) → List PV → Option (List PV)} (h0 : ∀ (l : List UInt8) self, l ≠ [] → F self [.int 0, .str ⟨l.toArray⟩] = some [.str ⟨l.toArray⟩])
    (h1:∀ (u:Nat) (l:List UInt8) self,(0<u∨l=[])→u+l.length≤1000002→F self [.int (u:Int),.str ⟨l.toArray⟩]=self [.int ((u / 10:Nat):Int),.str ⟨(UInt8.ofNat (48+u % 10)::l).toArray⟩]) :
    ∀ (u:Nat) (l:List UInt8) (n:Nat),u+1<n→u+l.length≤1000001→Cy F n [.int (u:Int),.str ⟨l.toArray⟩]=some [.str ⟨(if u=0∧l≠[] then l else Lib.decDigits u++l).toArray⟩]:=by
  intro u
  induction u using Nat.strongRecOn with
  | _ u ih =>
    intro l n hn hl;obtain ⟨n,rfl⟩:∃ m,n=m+1:=⟨n - 1,by omega⟩;show F _ _=_
    by_cases hu:u=0
    · subst hu
      by_cases he:l=[]
      · subst he;rw [h1 0 [] _ (.inr rfl) (by simp)];obtain ⟨n,rfl⟩:∃ m,n=m+1:=⟨n - 1,by omega⟩;show F _ [.int 0,.str ⟨[UInt8.ofNat (48+0 % 10)].toArray⟩]=_;rw [h0 _ _ (by simp),if_neg (by simp),Lib.decDigits,dif_pos (by omega)];rfl
      · rw [show ((0:Nat):Int)=0 from rfl,h0 l _ he,if_pos ⟨rfl,he⟩]
    · rw [h1 u l _ (.inl (by omega)) (by omega)];show Cy F n [.int ((u / 10:Nat):Int),.str ⟨(UInt8.ofNat (48+u % 10)::l).toArray⟩]=_;have rhs:(if u=0∧l≠[] then l else Lib.decDigits u++l)=Lib.decDigits u++l:=if_neg (fun h=>hu h.1);rw [rhs,ih (u / 10) (by omega) _ n (by omega) (by simp only [List.length_cons];omega),Lib.decDigits.eq_def u]
      by_cases h:u<10
      · rw [if_pos ⟨by omega,by simp⟩,dif_pos h,Nat.mod_eq_of_lt h];rfl
      · rw [if_neg (fun hh=>by omega),dif_neg h,List.append_assoc];rfl
theorem lA {k:Nat} (h:k<10):(⟨#[48,49,50,51,52,53,54,55,56,57]⟩:ByteArray).extract k (k+1)=⟨#[UInt8.ofNat (48+k)]⟩:=by
 have:k=0∨k=1∨k=2∨k=3∨k=4∨k=5∨k=6∨k=7∨k=8∨k=9:=by omega
 rcases this with h | h | h | h | h | h | h | h | h | h<;>subst h<;>rfl
theorem jb {n:Int} (h0:0≤n) (h1:n≤1000000000):IntKind.u64.wrap n=n:=by
 have e:IntKind.u64.wrap n=n % 18446744073709551616:=by
  unfold IntKind.wrap;rfl
 rw [e];exact Int.emod_eq_of_lt h0 (by omega)
set_option maxHeartbeats 2000000 in
theorem Oi {N n:Nat} (hN:2097152<N) (h:n≤1000000):Cc N [.int (n:Int)]=some [.str (CU n)]:=by
 have P:H3 N [.int (n:Int),.int 1]=some [.str (CU n)]:=by
  show K5 (std (SS N) N) (xOf _)=_;have z:iLt (n:Int) 0=false:=by simp only [iLt,decide_eq_false_iff_not];omega
  have z1:iLt 20 1=false:=by decide
  have z2:iLt 1 1=false:=by decide
  have z3:iSm 0 1=true:=by decide
  have z4:iSm 1 1=true:=by decide
  simp only [K5,Alg.q,std,xOf,PXb];simp only [PXb,z,z1,z2,jb (show (0:Int)≤(n:Int) by omega) (show (n:Int)≤1000000000 by omega)];refine AW (r:=[.str (CU n)]) ((j0 ?_ ?_ n [] N (by omega) (by simp;omega)).trans (by rw [if_neg (by simp),List.append_nil];rfl)) ?_
  ·intro l self hl;have:iLt ((⟨l.toArray⟩:ByteArray).size:Int) 1=false:=by
    simp only [iLt,decide_eq_false_iff_not];show ¬ ((l.toArray.size:Nat):Int)<1;rw [List.size_toArray];have:=List.length_pos_iff.2 hl;omega
   have z5:iLt 0 0=false:=by decide
   simp only [PXb,PXc,PXn,AE,this,z5]
  ·intro u l self hu hl;have c:(iLt 0 (u:Int)||iLt ((⟨l.toArray⟩:ByteArray).size:Int) 1)=true:=by
    rcases hu with hu | hu
    ·rw [show iLt 0 (u:Int)=true by simp only [iLt,decide_eq_true_eq];omega];rfl
    ·subst hu;exact Bool.or_true _
   have e1:Int.tmod (u:Int) 10=((u % 10:Nat):Int):=rfl;have e2:IntKind.u64.wrap (((u % 10:Nat):Int)+1)=((u % 10+1:Nat):Int):=by rw [jb (by omega) (by omega)];omega
   have e3:IntKind.u64.wrap (Int.tdiv (u:Int) 10)=((u / 10:Nat):Int):=by
    show IntKind.u64.wrap ((u / 10:Nat):Int)=_;exact jb (by omega) (by omega)
   have ds:=lA (show u % 10<10 by omega);have rg:iRg ((u % 10:Nat):Int) ((u % 10+1:Nat):Int) 10=true:=by simp only [iRg,decide_eq_true_eq];omega
   have s1:iSm ((⟨l.toArray⟩:ByteArray).size:Int) 1=true:=Fp (by show l.toArray.size≤_;rw [List.size_toArray];omega) (by omega);have sz:(((⟨#[48,49,50,51,52,53,54,55,56,57]⟩:ByteArray).size:Nat):Int)=10:=rfl;have sz1:(((⟨#[UInt8.ofNat (48+u % 10)]⟩:ByteArray).size:Nat):Int)=1:=rfl;simp only [PXb,PXc,PXn,AE,c,e1,e2,e3,sz,rg,Int.toNat_natCast,ds,sz1,z4,s1,lw]
  ·have s1:iSm ((CU n).size:Int) 1=true:=Fp (by have:=Cd h;omega) (by omega);have s0:iSm (((⟨#[]⟩:ByteArray).size:Nat):Int) 1=true:=z3;have e0:(⟨#[]⟩:ByteArray)++CU n=CU n:=by apply ByteArray.ext;simp
   simp only [PXb,PXc,PXn,AE,s1,s0,e0]
 show KF (std (LU N) N) (xOf _)=_;simp only [KF,QD,Alg.q,std,xOf,PXb,P]
theorem gl {N n:Nat} (h:n≤1000000):CV N [.int (n:Int),.int 10]=some [.str (CU n)]:=by
 show cond ((10:Int)==10) (Xu (n:Int)) none=_;rw [bH (by omega)];rfl
theorem fF {N n:Nat} (h:n≤1000000):Ey N [.int (n:Int)]=some [.str (CU n)]:=bH (by omega)
theorem S5 {N n:Nat} (h:n≤1000000):GD N [.int (n:Int)]=some [.str (CU n)]:=by
 show Ih (std (KY N) N) (xOf _)=_;simp only [Ih,M0,Alg.q,std,xOf,PXb,fF h]
theorem aL {N n:Nat} (h:n≤1000000):F8 N [.int (n:Int)]=some [.str (CU n)]:=by
 have F:Cx N [.int (n:Int),.int 10]=some [.str (CU n)]:=by
  show EV (std (F3 N) N) (xOf _)=_;simp only [EV,HT,Alg.q,std,xOf,PXb,gl h]
 show I2 (std (KZ N) N) (xOf _)=_;simp only [I2,Kj,Alg.q,std,xOf,PXb,F]
end Go.Px
end
