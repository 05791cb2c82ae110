/- Part 17. -/
import Derived.Test.YtlbbobdcfhkkfaaGreatDoorPart08
import Derived.Test.YtlbbobdcfhkkfaaGreatDoorPart16
import Derived.Test.YtlbbobdcfhkkfaaGreatDoorPart14
set_option linter.unusedVariables false
set_option linter.unusedSimpArgs false
variable {r1 r2 r3 r4 r5 r6 r7 r9 r10 r11 r12:Int}
section
namespace Go.Px
set_option maxRecDepth 100000
theorem aP {F : (List AU → Option (List PV)) → List PV → Option (List PV)} {len p : Nat} (enc : Nat → List AU) (stop fin : List PV) (hp : p ≤ len)
    (h0:p=len→∀ self,F self ((enc len).map Leaf.pv)=some fin) (h1:∀ i self,i<p→F self ((enc i).map Leaf.pv)=self (enc (i+1)))
    (h2:p<len→∀ self,F self ((enc p).map Leaf.pv)=some stop) (n:Nat) (hn:len<n) :
    DB F n ((enc 0).map Leaf.pv)=some (cond (Nat.blt p len) stop fin):=by
  have main:∀ (k i n:Nat),i+k=p→k<n→DB F n ((enc i).map Leaf.pv)=some (cond (Nat.blt p len) stop fin):=by
    intro k
    induction k with
    | zero =>
      intro i n hk hn;obtain ⟨n,rfl⟩:∃ m,n=m+1:=⟨n - 1,by omega⟩;obtain rfl:i=p:=by omega
      show F _ _=_
      rcases Nat.lt_or_ge i len with h | h
      · rw [h2 h,show Nat.blt i len=true from Nat.ble_eq_true_of_le h];rfl
      · obtain rfl:i=len:=by omega
        rw [h0 rfl,show Nat.blt i i=false from by
          cases hq:Nat.blt i i with
          | false=>rfl
          | true=>exact absurd (Nat.le_of_ble_eq_true hq) (by omega)]
        rfl
    | succ k ih =>
      intro i n hk hn;obtain ⟨n,rfl⟩:∃ m,n=m+1:=⟨n - 1,by omega⟩;show F _ _=_;rw [h1 i _ (by omega)];exact ih (i+1) n (by omega) (by omega)
  exact main p 0 n (by omega) (by omega)
def Jw (f:Nat→Bool):Nat→Nat→Nat
 | 0,i=>i
 | k+1,i=>cond (f i) i (Jw f k (i+1))
theorem NZ (f:Nat→Bool):∀ k i,Jw f k i≤i+k
 | 0,i=>Nat.le_refl _
 | k+1,i=>by
  show cond (f i) i (Jw f k (i+1))≤_;have:=NZ f k (i+1);cases f i
  ·show Jw f k (i+1)≤_;omega
  ·show i≤_;omega
theorem Sw (f:Nat→Bool):∀ k i j,i≤j→j<Jw f k i→f j=false
 | 0,i,j,h1,h2=>by change j<i at h2;omega
 | k+1,i,j,h1,h2=>by
  change j<cond (f i) i (Jw f k (i+1)) at h2;cases hf:f i with
  | true=>rw [hf] at h2;change j<i at h2;omega
  | false =>
   rw [hf] at h2
   rcases Nat.lt_or_ge i j with h | h
   ·exact Sw f k (i+1) j h h2
   ·obtain rfl:j=i:=by omega
    exact hf
theorem Pq (f:Nat→Bool):∀ k i,Jw f k i<i+k→f (Jw f k i)=true
 | 0,i,h=>by change i<i at h;omega
 | k+1,i,h=>by
  change cond (f i) i (Jw f k (i+1))<i+(k+1) at h;show f (cond (f i) i (Jw f k (i+1)))=true;cases hf:f i with
  | true=>exact hf
  | false =>
   rw [hf] at h;change Jw f k (i+1)<i+(k+1) at h;exact Pq f k (i+1) (by omega)
structure BL where
 p:Int
 b:Int
 m:Int
 r:Int
 w:Int
 wd:Int
 nb:Int
def BL.ls (s:BL):List PV:=[.int s.p,.int s.b,.int s.m,.int s.r,.int s.w,.int s.wd,.int s.nb]
def A2 (xs:List BL):Rows:=xs.map BL.ls
def zBL (b m:Int):BL:=⟨b,0,m,0,0,0,0⟩
def bln (xs:List BL) (i:Nat):BL:=xs.getD i (zBL 0 0)
theorem pG (xs:List BL) (i:Nat):bln xs i=(match xs[i]? with | some s=>s | none=>zBL 0 0):=by
 unfold bln;rw [zzk];cases xs[i]?<;>rfl
theorem TQ {xs:List BL} {i:Nat} (h:i<xs.length):bln xs i=xs[i]:=by rw [pG,zzn h]
theorem q9 (xs:List BL) (i:Nat):AB (A2 xs) i=(match xs[i]? with | some s=>s.ls | none=>[]):=by
 unfold AB A2;rw [zzk,List.getElem?_map];cases xs[i]?<;>rfl
theorem Nd (xs:List BL):(A2 xs).length=xs.length:=List.length_map _
theorem PXv : (∀ xs : List BL, (A2 xs).length = xs.length) ∧ (∀ (xs : List BL) (i : Nat), pvI (AF (A2 xs) i 0) = (bln xs i).p) ∧ (∀ (xs : List BL) (i : Nat), pvI (AF (A2 xs) i 1) = (bln xs i).b) ∧ (∀ (xs : List BL) (i : Nat), pvI (AF (A2 xs) i 2) = (bln xs i).m) ∧ (∀ (xs : List BL) (i : Nat), pvI (AF (A2 xs) i 3) = (bln xs i).r) ∧
    (∀ (xs:List BL) (i:Nat),pvI (AF (A2 xs) i 4)=(bln xs i).w)∧(∀ (xs:List BL) (i:Nat),pvI (AF (A2 xs) i 5)=(bln xs i).wd)∧(∀ (xs:List BL) (i:Nat),pvI (AF (A2 xs) i 6)=(bln xs i).nb):=by
  refine ⟨Nd,?_,?_,?_,?_,?_,?_,?_⟩
  all_goals (intro xs i;rw [pG];unfold AF;rw [q9];cases xs[i]?<;>rfl)
theorem Lt {xs:List BL} {i j:Nat} {v:Int} (f:BL→BL) (h:∀ s:BL,Ac s.ls j [.int v]=(f s).ls):(A2 xs).set i (Ac (AB (A2 xs) i) j [.int v])=A2 (xs.set i (f (bln xs i))):=by
 by_cases hi:i<xs.length
 ·have e:AB (A2 xs) i=(bln xs i).ls:=by rw [q9,pG,zzn hi]
  rw [e,h];exact List.map_set.symm
 ·rw [List.set_eq_of_length_le (by rw [Nd];omega),List.set_eq_of_length_le (by omega)]
theorem PXx : (∀ (xs : List BL) (i : Nat) (v : Int), (A2 xs).set i (Ac (AB (A2 xs) i) 1 [.int v]) = A2 (xs.set i { bln xs i with b := v })) ∧ (∀ (xs : List BL) (i : Nat) (v : Int), (A2 xs).set i (Ac (AB (A2 xs) i) 2 [.int v]) = A2 (xs.set i { bln xs i with m := v })) ∧
    (∀ (xs:List BL) (i:Nat) (v:Int),(A2 xs).set i (Ac (AB (A2 xs) i) 3 [.int v])=A2 (xs.set i { bln xs i with r:=v }))∧(∀ (xs:List BL) (i:Nat) (v:Int),(A2 xs).set i (Ac (AB (A2 xs) i) 4 [.int v])=A2 (xs.set i { bln xs i with w:=v })) ∧
    (∀ (xs:List BL) (i:Nat) (v:Int),(A2 xs).set i (Ac (AB (A2 xs) i) 5 [.int v])=A2 (xs.set i { bln xs i with wd:=v }))∧(∀ (xs:List BL) (i:Nat) (v:Int),(A2 xs).set i (Ac (AB (A2 xs) i) 6 [.int v])=A2 (xs.set i { bln xs i with nb:=v })) ∧
    (∀ (xs:List BL) (a b c d e f g:Int),A2 xs++[([.int a,.int b,.int c,.int d,.int e,.int f,.int g]:List PV)]=A2 (xs++[⟨a,b,c,d,e,f,g⟩])) :=
  ⟨fun xs i v=>Lt (j:=1) (v:=v) (fun s=>{ s with b:=v }) (fun s=>rfl),fun xs i v=>Lt (j:=2) (v:=v) (fun s=>{ s with m:=v }) (fun s=>rfl),fun xs i v=>Lt (j:=3) (v:=v) (fun s=>{ s with r:=v }) (fun s=>rfl),fun xs i v=>Lt (j:=4) (v:=v) (fun s=>{ s with w:=v }) (fun s=>rfl),fun xs i v=>Lt (j:=5) (v:=v) (fun s=>{ s with wd:=v }) (fun s=>rfl),fun xs i v=>Lt (j:=6) (v:=v) (fun s=>{ s with nb:=v }) (fun s=>rfl),
    fun xs a b c d e f g=>(List.map_append (f:=BL.ls) (l₁:=xs) (l₂:=[⟨a,b,c,d,e,f,g⟩])).symm⟩
abbrev wr6 (n:Int):Int:=IntKind.i64.wrap n
def blX (x:List PV) (md:Bool) (s:BL):BL:=⟨s.p,cond (pvB (AA x 26)) (wr6 (s.b+1)) s.b,cond md (wr6 (s.m+1)) s.m,wr6 (s.r+pvI (AA x 25)),cond (pvB (AA x 28)) (wr6 (s.w+1)) s.w,cond (pvI (AA x 8)==2) (wr6 (s.wd+1)) s.wd,cond (pvI (AA x 8)==2) s.nb (cond (pvI (AA x 8)==3) (wr6 (s.nb+1)) s.nb)⟩
def FW (b:Int) (xs:List BL):Nat:=Jw (fun j=>(bln xs j).p==b) xs.length 0
def Xf (b:Int) (xs:List BL):List BL:=cond (Nat.blt (FW b xs) xs.length) xs (xs++[zBL b 0])
def fJ (x:List PV) (md:Bool) (xs:List BL):List BL:=(Xf (pvI (AA x 4)) xs).set (FW (pvI (AA x 4)) xs) (blX x md (bln (Xf (pvI (AA x 4)) xs) (FW (pvI (AA x 4)) xs)))
def Ko (md:Nat→Bool) (X:Rows):Nat→List BL
 | 0=>[]
 | i+1=>fJ (AB X i) (md i) (Ko md X i)
def Cz (md:Nat→Bool) (X:Rows) (b m0:Int):Nat→BL
 | 0=>zBL b m0
 | i+1=>cond (pvI (AA (AB X i) 4)==b) (blX (AB X i) (md i) (Cz md X b m0 i)) (Cz md X b m0 i)
def boN (X:Rows):Nat→List Int
 | 0=>[]
 | i+1=>cond ((boN X i).any (·==pvI (AA (AB X i) 4))) (boN X i) (boN X i++[pvI (AA (AB X i) 4)])
theorem jb (X:Rows):∀ i,(boN X i).length≤i
 | 0=>Nat.le_refl _
 | i+1=>by
  have:=jb X i;show (cond _ (boN X i) (boN X i++[_])).length≤i+1;cases (boN X i).any (·==pvI (AA (AB X i) 4))
  ·show (boN X i++[_]).length≤_;rw [List.length_append];exact Nat.succ_le_succ this
  ·exact Nat.le_succ_of_le this
theorem wE {l:List Int} {b:Int} (h:l.any (·==b)=false):b∉l:=fun hm=>by
 have:l.any (·==b)=true:=List.any_eq_true.2 ⟨b,hm,beq_self_eq_true b⟩;rw [h] at this;cases this
theorem aQ (X:Rows):∀ i,(boN X i).Nodup
 | 0=>List.nodup_nil
 | i+1=>by
  have ih:=aQ X i;show (cond _ (boN X i) (boN X i++[_])).Nodup;cases ha:(boN X i).any (·==pvI (AA (AB X i) 4)) with
  | true=>exact ih
  | false =>
   refine List.nodup_append.2 ⟨ih,List.pairwise_singleton _ _,fun x hx y hy=>?_⟩;rw [List.mem_singleton.1 hy];exact fun e=>wE ha (e▸hx)
theorem yV (md:Nat→Bool) (X:Rows) (b m0:Int):∀ i,(Cz md X b m0 i).p=b
 | 0=>rfl
 | i+1=>by
  have ih:=yV md X b m0 i;show (cond _ (blX _ _ (Cz md X b m0 i)) (Cz md X b m0 i)).p=b;cases pvI (AA (AB X i) 4)==b<;>exact ih
theorem oU (md:Nat→Bool) (X:Rows) (b m0:Int):∀ i,b∉boN X i→Cz md X b m0 i=zBL b m0
 | 0,_=>rfl
 | i+1,h=>by
  change b∉cond _ (boN X i) (boN X i++[_]) at h;have h1:b∉boN X i∧(pvI (AA (AB X i) 4)==b)=false:=by
   cases ha:(boN X i).any (·==pvI (AA (AB X i) 4)) with
   | true =>
    rw [ha] at h;refine ⟨h,beq_eq_false_iff_ne.2 (fun e=>h ?_)⟩;obtain ⟨y,hy,hye⟩:=List.any_eq_true.1 ha;rw [← e,← beq_iff_eq.1 hye];exact hy
   | false =>
    rw [ha] at h;have h:b∉boN X i++[_]:=h;exact ⟨fun hm=>h (List.mem_append_left _ hm),beq_eq_false_iff_ne.2 (fun e=>h (List.mem_append_right _ (by rw [e];exact List.mem_singleton.2 rfl)))⟩
  show cond _ (blX _ _ (Cz md X b m0 i)) (Cz md X b m0 i)=_;rw [h1.2];exact oU md X b m0 i h1.1
theorem fK {a b:Nat} (h:a<b):Nat.blt a b=true:=Nat.ble_eq_true_of_le h
theorem fQ {a b:Nat} (h:¬ a<b):Nat.blt a b=false:=by
 cases hq:Nat.blt a b with
 | false=>rfl
 | true=>exact absurd (Nat.le_of_ble_eq_true hq) h
theorem bD (md:Nat→Bool) (X:Rows):∀ i,Ko md X i=(boN X i).map fun b=>Cz md X b 0 i
 | 0=>rfl
 | i+1=>by
  have ih:=bD md X i;have nd:=aQ X i;show fJ (AB X i) (md i) (Ko md X i)=(cond ((boN X i).any (·==pvI (AA (AB X i) 4))) (boN X i) (boN X i++[pvI (AA (AB X i) 4)])).map _;rw [ih];generalize hb:pvI (AA (AB X i) 4)=b;generalize hB:boN X i=B at *
  have ls1:∀ c,Cz md X c 0 (i+1)=cond (b==c) (blX (AB X i) (md i) (Cz md X c 0 i)) (Cz md X c 0 i):=fun c=>by rw [← hb];rfl
  have hpj:∀ j (hj:j<B.length),(bln (B.map fun b=>Cz md X b 0 i) j).p=B[j]:=fun j hj=>by
   rw [TQ (by rw [List.length_map];exact hj),List.getElem_map,yV]
  have ple:=NZ (fun j=>(bln (B.map fun b=>Cz md X b 0 i) j).p==b) (B.map fun b=>Cz md X b 0 i).length 0;have pno:=Sw (fun j=>(bln (B.map fun b=>Cz md X b 0 i) j).p==b) (B.map fun b=>Cz md X b 0 i).length 0;have pyes:=Pq (fun j=>(bln (B.map fun b=>Cz md X b 0 i) j).p==b) (B.map fun b=>Cz md X b 0 i).length 0;unfold fJ;rw [hb];change FW b (B.map fun b=>Cz md X b 0 i)≤_ at ple;change ∀ j,0≤j→j<FW b (B.map fun b=>Cz md X b 0 i)→_ at pno;change FW b (B.map fun b=>Cz md X b 0 i)<_→((bln (B.map fun b=>Cz md X b 0 i) (FW b (B.map fun b=>Cz md X b 0 i))).p==b)=true at pyes;rw [Nat.zero_add,List.length_map] at ple;rw [Nat.zero_add,List.length_map] at pyes;unfold Xf;rw [List.length_map];generalize FW b (B.map fun b=>Cz md X b 0 i)=p at *
  by_cases hp:p<B.length
  ·have hbp:B[p]=b:=by rw [← hpj p hp];exact beq_iff_eq.1 (pyes hp)
   have hany:B.any (·==b)=true:=List.any_eq_true.2 ⟨b,by rw [← hbp];exact List.getElem_mem hp,beq_self_eq_true b⟩;rw [fK hp,hany,cond_true,cond_true];apply List.ext_getElem
   ·simp
   ·intro j h1 h2o;have h2:j<B.length:=by rw [List.length_map] at h2o;exact h2o
    rw [List.getElem_set,show (List.map (fun b=>Cz md X b 0 (i+1)) B)[j]'h2o=Cz md X B[j] 0 (i+1) from List.getElem_map _,ls1]
    by_cases hj:p=j
    ·subst hj;rw [if_pos rfl,hbp,beq_self_eq_true,cond_true,TQ (by rw [List.length_map];exact hp),List.getElem_map,hbp]
    ·rw [if_neg hj,List.getElem_map];have:¬ b=B[j]:=fun e=>hj (by
      rcases Nat.lt_trichotomy p j with h | h | h
      ·exact absurd (hbp.trans e) (List.pairwise_iff_getElem.1 nd p j hp h2 h)
      ·exact h
      ·exact absurd (e.symm.trans hbp.symm) (List.pairwise_iff_getElem.1 nd j p h2 hp h))
     rw [beq_eq_false_iff_ne.2 this,cond_false]
  ·obtain rfl:p=B.length:=by omega
   have hno:b∉B:=fun hm=>by
    obtain ⟨j,hj,e⟩:=List.getElem_of_mem hm;have:=pno j (Nat.zero_le _) hj;change ((bln (B.map fun b=>Cz md X b 0 i) j).p==b)=false at this;rw [hpj j hj,e,beq_self_eq_true] at this;cases this
   have hany:B.any (·==b)=false:=by
    cases h:B.any (·==b) with
    | false=>rfl
    | true =>
     obtain ⟨y,hy,hye⟩:=List.any_eq_true.1 h;exact absurd (beq_iff_eq.1 hye▸hy) hno
   have hz:Cz md X b 0 i=zBL b 0:=oU md X b 0 i (by rw [hB];exact hno);rw [fQ hp,hany,cond_false,cond_false,List.map_append];have hs:bln ((B.map fun b=>Cz md X b 0 i)++[zBL b 0]) B.length=zBL b 0:=by
    rw [TQ (by simp),List.getElem_append_right (by simp)];simp
   rw [hs,List.set_append_right _ _ (by simp)];have e1:(B.map fun b=>Cz md X b 0 (i+1))=B.map fun b=>Cz md X b 0 i:=List.map_congr_left (fun c hc=>by
    rw [ls1,beq_eq_false_iff_ne.2 (fun e=>hno (by rw [e];exact hc)),cond_false])
   rw [e1];simp only [List.length_map,Nat.sub_self,List.set_cons_zero,List.map_cons,List.map_nil,ls1,beq_self_eq_true,cond_true,hz]
def mdP (md:Nat→Bool) (X:Rows) (b:Int):Nat→Int
 | 0=>0
 | i+1=>cond (pvI (AA (AB X i) 4)==b&&md i) (wr6 (mdP md X b i+1)) (mdP md X b i)
def JL (X:Rows) (o b:Int) (j:Nat):Bool:=(pvI (AA (AB X j) 2)==o)&&(!(pvI (AA (AB X j) 4)==b) || !(pvI (AA (AB X j) 25)==0))
def CZ (X:Rows) (o:Int):Nat→Int
 | 0=>0
 | j+1=>cond ((pvI (AA (AB X j) 2)==o)&&pvB (AA (AB X j) 26)) (wr6 (CZ X o j+1)) (CZ X o j)
def mdS (bal:Int) (X:Rows) (o b:Int):Bool := !Nat.blt (Jw (JL X o b) X.length 0) X.length&&(CZ X o X.length==bal)
def Xq (X:Rows) (i:Nat):Bool:=Nat.beq i 0 || !(pvI (AA (AB X (i - 1)) 2)==pvI (AA (AB X i) 2))
def mdA (bal:Int) (X:Rows) (i:Nat):Bool:=Xq X i&&mdS bal X (pvI (AA (AB X i) 2)) (pvI (AA (AB X i) 4))
theorem ir {bal:Int} {X:Rows} {o b:Int}:mdS bal X o b=true↔(∀ j,j<X.length→(pvI (AA (AB X j) 2)==o)=true→(pvI (AA (AB X j) 4)==b)=true∧pvI (AA (AB X j) 25)=0)∧(CZ X o X.length==bal)=true:=by
 unfold mdS;rw [zzj];refine and_congr_left (fun _=>?_);have ple:=NZ (JL X o b) X.length 0;have pno:=Sw (JL X o b) X.length 0;have pyes:=Pq (JL X o b) X.length 0;rw [Nat.zero_add] at ple pyes;generalize Jw (JL X o b) X.length 0=p at *
 constructor
 ·intro h j hj hjo;have hp:¬ p<X.length:=fun hl=>by rw [fK hl] at h;cases h
  have:=pno j (Nat.zero_le _) (by omega);unfold JL at this;rw [hjo,Bool.true_and,Bool.or_eq_false_iff,Bool.not_eq_false',Bool.not_eq_false'] at this;exact ⟨this.1,beq_iff_eq.1 this.2⟩
 ·intro h;rw [fQ (fun hl=>?_)];rfl;have:=pyes hl;unfold JL at this;rw [zzj] at this;obtain ⟨h1,h2⟩:=h _ hl this.1;have h3:=this.2;simp only [beq_iff_eq.1 h1,h2,beq_self_eq_true] at h3;exact absurd h3 (by decide)
set_option maxHeartbeats 2000000 in
theorem UI {N:Nat} {r8:Bool} {r0:ByteArray} {r13:Rows} {X:Rows} {o:Int} {b:Int} (hN:2097152<N) (hX:X.length≤1000000):JN N [.str r0,.int r1,.int r2,.int r3,.int r4,.int r5,.int r6,.int r7,.bool r8,.int r9,.int r10,.int r11,.int r12,.rows r13,.rows X,.int o,.int b]=some [.bool (mdS r4 X o b)]:=by
 show Ix (std (RG N) N) (xOf _)=_;simp only [Ix,lq9,std,xOf,PXb];have ple:=NZ (JL X o b) X.length 0;have pno:=Sw (JL X o b) X.length 0;have pyes:=Pq (JL X o b) X.length 0;rw [Nat.zero_add] at ple pyes;refine AZ (aP (len:=X.length) (p:=Jw (JL X o b) X.length 0) (fun i=>[.int (CZ X o i),.int (i:Int)]) [.int 0,.bool false] [.int 1,.int (CZ X o X.length)] ple ?_ ?_ ?_ N (by omega)) ?_
 ·intro _ self;simp only [PXb,PXc,PXn,AG,A3]
 ·intro i self hi;have hb:=pno i (Nat.zero_le _) hi;unfold JL at hb;have hl:i<X.length:=by omega
  simp only [PXb,PXc,PXn,AG,BN (show i≤1099511627776 by omega),Ay hl,AN hl,AF,CZ];cases h1:pvI (AA (AB X i) 2)==o with
  | false=>rfl
  | true =>
   rw [h1,Bool.true_and] at hb;cases h2:pvI (AA (AB X i) 4)==b<;>cases h3:pvI (AA (AB X i) 25)==0<;>rw [h2,h3] at hb<;>first | (cases hb;done) | (cases pvB (AA (AB X i) 26)<;>rfl)
 ·intro hl self;have hb:=pyes hl;generalize Jw (JL X o b) X.length 0=p at *
  unfold JL at hb;simp only [PXb,PXc,PXn,AG,Ay hl,AN hl,AF];cases h1:pvI (AA (AB X p) 2)==o<;>cases h2:pvI (AA (AB X p) 4)==b<;>cases h3:pvI (AA (AB X p) 25)==0<;>rw [h1,h2,h3] at hb<;>first | (cases hb;done) | rfl
 ·unfold mdS;cases Nat.blt (Jw (JL X o b) X.length 0) X.length<;>rfl
def dR (x:List PV):Prop:=x.length=32∧GL x=x
theorem kX {L:Rows}:∀ k i m out,(∀ x∈out,dR x)→∀ x∈M0 L k i m out,dR x
 | 0,i,m,out,h=>h
 | k+1,i,m,out,h=>by
  show ∀ x∈M0 L k (i+1) (A7 i m (evR L i)).1 (cond ((evR L i).kind==4) (out++[Bh i m (A7 i m (evR L i)).1 (evR L i).ball]) out),dR x;refine kX k (i+1) _ _ ?_;cases (evR L i).kind==4 with
  | false=>exact h
  | true =>
   intro x hx
   rcases List.mem_append.1 hx with hx | hx
   ·exact h x hx
   ·rw [List.mem_singleton.1 hx];exact ⟨rfl,rfl⟩
theorem pw {r:Rul} {L:Rows} (hc:Ak r L=0):∀ x∈Bi r L,dR x:=by
 obtain ⟨h1,h2,h3,h4,h5⟩:=Bc hc;have:Bi r L=M0 L L.length 0 (AK r).1 []:=by
  unfold Bi;rw [h1];obtain ⟨j,j1,j2,j3,j4⟩:=P9 L L.length 0 (AK r).1;show Ls L L.length 0 (AK r).1 []=_;rw [j3 []]
  rcases j4 with ⟨j5,_⟩ | ⟨j5,j6,j7⟩
  ·rw [j5]
  ·have hh:=MV L.length 0 _ h4 j j5;rw [hh] at j6;cases j6
 rw [this];exact kX _ _ _ _ (fun x hx=>absurd hx List.not_mem_nil)
theorem jW {k:Int}:∀ {A:Rows},(∀ x∈A,dR x)→(∀ x∈A,(pvI (AA x 1)==k)=true)→fil k A=A
 | [],_,_=>rfl
 | x::A,h,h1=>by
  show cond (pvI (AA x 1)==k) (GL x::fil k A) (fil k A)=_;rw [h1 x zzl,jW (fun y hy=>h y (zzm _ hy)) (fun y hy=>h1 y (zzm _ hy)),(h x zzl).2];rfl
theorem Q1 {D:Rows} {i:Nat} (h:i<D.length):AB D i∈D:=by
 unfold AB;rw [zzk,zzn h];exact List.getElem_mem h
theorem pu {D:Rows} {x:List PV} {n:Nat} (h:x∈D.take n):∃ j,j<n∧j<D.length∧x=AB D j:=by
 obtain ⟨j,hj,e⟩:=List.getElem_of_mem h;rw [List.length_take] at hj;refine ⟨j,by omega,by omega,?_⟩;rw [← e,List.getElem_take];unfold AB;rw [zzk,zzn (by omega)];rfl
theorem iM:∀ (ps r:List PV) (off:Nat),r.length=off+ps.length→Ac r off ps=r.take off++ps
 | [],r,off,h=>by
  show r=_;rw [List.append_nil,List.take_of_length_le (by simpa using Nat.le_of_eq h)]
 | p::ps,r,off,h=>by
  show Ac (r.set off p) (off+1) ps=_;have hl:off<r.length:=by rw [h];simp
  rw [iM ps (r.set off p) (off+1) (by rw [List.length_set,h];simp;omega),List.take_add_one,List.getElem?_set_self hl,List.take_set_of_le (Nat.le_refl _)];simp
theorem qC {ps r:List PV} (h:r.length=ps.length):Ac r 0 ps=ps:=by rw [iM ps r 0 (by omega)];rfl
def dlN (D:Rows) (k:Int) (p:Nat):Nat→Rows×Nat
 | 0=>(D,p)
 | t+1=>cond (pvI (AA (AB (dlN D k p t).1 (p+1+t)) 1)==k) ((dlN D k p t).1.set (dlN D k p t).2 (GL (AB (dlN D k p t).1 (p+1+t))),(dlN D k p t).2+1) (dlN D k p t)
structure DlF (D:Rows) (k:Int) (p t:Nat):Prop where
 len:(dlN D k p t).1.length=D.length
 le:(dlN D k p t).2≤p+t
 cut:(dlN D k p t).1.take (dlN D k p t).2=fil k (D.take (p+1+t))
 rest:∀ j,p+1+t≤j→AB (dlN D k p t).1 j=AB D j
 row:∀ x∈(dlN D k p t).1,dR x
theorem AAd {D:Rows} {k:Int} {p:Nat} (hD:∀ x∈D,dR x) (hp:p<D.length) (h0:∀ j,j<p→(pvI (AA (AB D j) 1)==k)=true) (h1:(pvI (AA (AB D p) 1)==k)=false):∀ t,p+1+t≤D.length→DlF D k p t
 | 0,_=>by
  refine ⟨rfl,Nat.le_refl _,?_,fun j _=>rfl,hD⟩;show D.take p=fil k (D.take (p+1));rw [eT hp,show pvI (AF D p 1)=pvI (AA (AB D p) 1) from rfl,h1,cond_false,jW (fun x hx=>hD x (List.mem_of_mem_take hx)) (fun x hx=>by
   obtain ⟨j,h2,h3,rfl⟩:=pu hx;exact h0 j h2)]
 | t+1,ht=>by
  obtain ⟨f1,f2,f3,f4,f5⟩:=AAd hD hp h0 h1 t (by omega);have hj:p+1+t<D.length:=by omega
  have hr:=f4 (p+1+t) (Nat.le_refl _);have ft:=eT (k:=k) hj;rw [show pvI (AF D (p+1+t) 1)=pvI (AA (AB D (p+1+t)) 1) from rfl] at ft;have e:dlN D k p (t+1)=cond (pvI (AA (AB D (p+1+t)) 1)==k) ((dlN D k p t).1.set (dlN D k p t).2 (GL (AB D (p+1+t))),(dlN D k p t).2+1) (dlN D k p t):=by rw [← hr];rfl
  cases hk:pvI (AA (AB D (p+1+t)) 1)==k with
  | false =>
   rw [hk,cond_false] at e ft;exact ⟨by rw [e];exact f1,by rw [e];omega,by rw [e,f3,show p+1+(t+1)=p+1+t+1 by omega,ft],fun j hj2=>by rw [e];exact f4 j (by omega),by rw [e];exact f5⟩
  | true =>
   rw [hk,cond_true] at e ft;have hl:(dlN D k p t).2<(dlN D k p t).1.length:=by omega
   refine ⟨by rw [e];show (List.set _ _ _).length=_;rw [List.length_set];exact f1,by rw [e];show (dlN D k p t).2+1≤_;omega,?_,fun j hj2=>?_,?_⟩
   ·rw [e,show p+1+(t+1)=p+1+t+1 by omega,ft,← f3];show ((dlN D k p t).1.set (dlN D k p t).2 _).take ((dlN D k p t).2+1)=_;rw [List.take_add_one,List.getElem?_set_self hl,List.take_set_of_le (Nat.le_refl _)];rfl
   ·rw [e,← f4 j (by omega)];show AB ((dlN D k p t).1.set (dlN D k p t).2 _) j=_;unfold AB;simp only [zzk,List.getElem?_set_ne (show (dlN D k p t).2≠j by omega)]
   ·rw [e];intro x hx
    rcases List.mem_or_eq_of_mem_set hx with h | h
    ·exact f5 x h
    ·have:=hD _ (Q1 hj);rw [h,this.2];exact this
def Vr (r:Rul) (L:Rows) (k:Int):Rows×Int:=cond ((IQ r L k).2==0) (A2 (Ko (mdA r.balls (IQ r L k).1) (IQ r L k).1 (IQ r L k).1.length),0) ([],(IQ r L k).2)
def yI (x:List PV):List AU:=[.int (pvI (AA x 0)),.int (pvI (AA x 1)),.int (pvI (AA x 2)),.int (pvI (AA x 3)),.int (pvI (AA x 4)),.int (pvI (AA x 5)),.int (pvI (AA x 6)),.bool (pvB (AA x 7)),.int (pvI (AA x 8)),.int (pvI (AA x 9)),.int (pvI (AA x 10)),.int (pvI (AA x 11)),.int (pvI (AA x 12)),.bool (pvB (AA x 13)),.int (pvI (AA x 14)),.int (pvI (AA x 15)),.int (pvI (AA x 16)),.int (pvI (AA x 17)),.bool (pvB (AA x 18)),.int (pvI (AA x 19)),.int (pvI (AA x 20)),.int (pvI (AA x 21)),.int (pvI (AA x 22)),.int (pvI (AA x 23)),.int (pvI (AA x 24)),.int (pvI (AA x 25)),.bool (pvB (AA x 26)),.bool (pvB (AA x 27)),.bool (pvB (AA x 28)),.bool (pvB (AA x 29)),.int (pvI (AA x 30)),.int (pvI (AA x 31))]
theorem zV {ys:List BL} {p:Nat} (h:p<ys.length) (s:BL):bln (ys.set p s) p=s:=by rw [TQ (by rw [List.length_set];exact h),List.getElem_set_self]
theorem zx (b:Int) (xs:List BL):FW b xs<(Xf b xs).length∧(Xf b xs).length≤xs.length+1:=by
 have ple:=NZ (fun j=>(bln xs j).p==b) xs.length 0;rw [Nat.zero_add] at ple;change FW b xs≤xs.length at ple;unfold Xf
 by_cases h:FW b xs<xs.length
 ·rw [fK h,cond_true];exact ⟨h,Nat.le_succ _⟩
 ·rw [fQ h,cond_false,List.length_append];exact ⟨by simp only [List.length_cons,List.length_nil];omega,Nat.le_refl _⟩
theorem PXw:(∀ (xs:List BL) (i:Nat),pvI (AA (AB (A2 xs) i) 0)=(bln xs i).p)∧(∀ (xs:List BL) (i:Nat),pvI (AA (AB (A2 xs) i) 1)=(bln xs i).b)∧(∀ (xs:List BL) (i:Nat),pvI (AA (AB (A2 xs) i) 2)=(bln xs i).m)∧(∀ (xs:List BL) (i:Nat),pvI (AA (AB (A2 xs) i) 3)=(bln xs i).r)∧(∀ (xs:List BL) (i:Nat),pvI (AA (AB (A2 xs) i) 4)=(bln xs i).w)∧(∀ (xs:List BL) (i:Nat),pvI (AA (AB (A2 xs) i) 5)=(bln xs i).wd)∧(∀ (xs:List BL) (i:Nat),pvI (AA (AB (A2 xs) i) 6)=(bln xs i).nb):=PXv.2
theorem AA7 {N : Nat} (hN : 2097152 < N) {xs : List BL} (hx : xs.length ≤ 1000000) {b : Int} {J : List AU} {F : (List AU → Option (List PV)) → List PV → Option (List PV)}
    (h0:∀ self,F self (.int (xs.length:Int)::J.map Leaf.pv)=some (.int 1::J.map Leaf.pv)) (h1:∀ i self,i<xs.length→F self (.int (i:Int)::J.map Leaf.pv)=cond ((bln xs i).p==b) (some (.int 0::.int (i:Int)::J.map Leaf.pv)) (self (.int ((i+1:Nat):Int)::J))) :
    DB F N (.int 0::J.map Leaf.pv)=some (cond (Nat.blt (FW b xs) xs.length) (.int 0::.int (FW b xs:Int)::J.map Leaf.pv) (.int 1::J.map Leaf.pv)):=by
  have ple:=NZ (fun j=>(bln xs j).p==b) xs.length 0;have pno:=Sw (fun j=>(bln xs j).p==b) xs.length 0;have pyes:=Pq (fun j=>(bln xs j).p==b) xs.length 0;rw [Nat.zero_add] at ple pyes;have:=aP (F:=F) (len:=xs.length) (p:=FW b xs) (fun i=>.int (i:Int)::J) (.int 0::.int (FW b xs:Int)::J.map Leaf.pv) (.int 1::J.map Leaf.pv) ple (fun _ self=>h0 self) (fun i self hi=>by
    have:=h1 i self (Nat.lt_of_lt_of_le hi ple);rw [show ((bln xs i).p==b)=false from pno i (Nat.zero_le _) hi] at this;exact this) (fun hl self=>by
    have:=h1 (FW b xs) self hl;rw [show ((bln xs (FW b xs)).p==b)=true from pyes hl] at this;exact this) N (by omega)
  exact this
set_option maxHeartbeats 8000000 in
theorem SH {N:Nat} {r8:Bool} {r0:ByteArray} {r13:Rows} {L:Rows} {k:Int} (hN:2097152<N) (hs:r0.size≤1048576) (h13:r13.length≤1048576) (hL:L.length≤1000000):CG N [.str r0,.int r1,.int r2,.int r3,.int r4,.int r5,.int r6,.int r7,.bool r8,.int r9,.int r10,.int r11,.int r12,.rows r13,.rows L,.int k]=some [.rows (Vr (⟨r0,r1,r2,r3,r4,r5,r6,r7,r8,r9,r10,r11,r12,r13⟩:Rul) L k).1,.int (Vr (⟨r0,r1,r2,r3,r4,r5,r6,r7,r8,r9,r10,r11,r12,r13⟩:Rul) L k).2]:=by
 show FH (std (Bw N) N) (xOf _)=_;generalize hres:(some [.rows (Vr (⟨r0,r1,r2,r3,r4,r5,r6,r7,r8,r9,r10,r11,r12,r13⟩:Rul) L k).1,.int (Vr (⟨r0,r1,r2,r3,r4,r5,r6,r7,r8,r9,r10,r11,r12,r13⟩:Rul) L k).2]:Option (List PV))=RR;have hl:L.length≤1048576:=by omega
 simp only [FH,RW,Qp,OQ,NF,lq9,std,xOf,PXb,QY hN hs h13 hl,IP hN hl,SL hN hs h13 hl,Wg,PXc];subst hres;simp only [Vr,IQ];cases hc:Ak (⟨r0,r1,r2,r3,r4,r5,r6,r7,r8,r9,r10,r11,r12,r13⟩:Rul) L==0 with
 | false=>simp only [PXb,Bool.not_false,hc]
 | true =>
  have c0:=beq_iff_eq.1 hc;have pl:=fx (⟨r0,r1,r2,r3,r4,r5,r6,r7,r8,r9,r10,r11,r12,r13⟩:Rul) L;have l4:=(Bc c0).2.2.1;have rd:=pw c0;cases h0:iLt k 0 with
  | true=>rfl
  | false =>
   simp only [PXb,Bool.not_true,Bool.not_false,PXp,Nk];cases h1:iLe (opn L L.length:Int) k with
   | true=>rfl
   | false =>
    simp only [PXb];generalize Bi (⟨r0,r1,r2,r3,r4,r5,r6,r7,r8,r9,r10,r11,r12,r13⟩:Rul) L=D at *
    have ple:=NZ (fun j => !(pvI (AA (AB D j) 1)==k)) D.length 0;have pno:=Sw (fun j => !(pvI (AA (AB D j) 1)==k)) D.length 0;have pyes:=Pq (fun j => !(pvI (AA (AB D j) 1)==k)) D.length 0;rw [Nat.zero_add] at ple pyes;generalize Jw (fun j => !(pvI (AA (AB D j) 1)==k)) D.length 0=p at *
    refine CW (v:=[.rows (fil k D),.int k]) ?_ ?_
    ·refine CW (v:=[.int (cond (Nat.blt p D.length) (p:Int) (-1)),.int k]) ?_ ?_
     ·refine AZ (aP (len:=D.length) (p:=p) (fun i=>[.int (i:Int),.int k]) [.int 0,.int (p:Int),.int k] [.int 1,.int k] ple ?_ ?_ ?_ N (by omega)) ?_
      ·intro _ self;simp only [PXb,PXc,PXn,AG,A3]
      ·intro i self hi;have hb:=pno i (Nat.zero_le _) hi;have hl2:i<D.length:=by omega
       simp only [PXb,PXc,PXn,AG,BN (show i≤1099511627776 by omega),Ay hl2,AN hl2,AF,hb]
      ·intro hl2 self;have hb:=pyes hl2;simp only [PXb,PXc,PXn,AG,Ay hl2,AN hl2,AF,hb]
      ·cases Nat.blt p D.length<;>rfl
     ·by_cases hp:p<D.length
      ·have f:=AAd rd hp (fun j hj=>by
        have:=pno j (Nat.zero_le _) hj
        rwa [Bool.not_eq_false'] at this) (by
        have:=pyes hp
        rwa [Bool.not_eq_true'] at this)
       have pm:((p:Int) == -1)=false:=beq_eq_false_iff_ne.2 (by omega);have e9:p+1+(D.length - (p+1))=D.length:=by omega
       simp only [PXb,fK hp,pm,BN (show p≤1099511627776 by omega)];refine AZ (CA (len:=D.length - (p+1)) (fun t=>[.rows (dlN D k p t).1,.int ((dlN D k p t).2:Int),.int ((p+1+t:Nat):Int),.int k]) [.rows (dlN D k p (D.length - (p+1))).1,.int ((dlN D k p (D.length - (p+1))).2:Int),.int k] ?_ ?_ N (by omega)) ?_
       ·intro self;have fl:=(f (D.length - (p+1)) (by omega)).len;have el:(dlN D k p (D.length - (p+1))).1.length=p+1+(D.length - (p+1)):=by omega
        simp only [PXb,PXc,PXn,AG,el,A3]
       ·intro t self ht;obtain ⟨f1,f2,f3,f4,f5⟩:=f t (by omega);have hj:p+1+t<(dlN D k p t).1.length:=by omega
        have hi:(dlN D k p t).2<(dlN D k p t).1.length:=by omega
        have rl:=(f5 _ (Q1 hi)).1;have rj:=(f5 _ (Q1 hj)).1;have e:dlN D k p (t+1)=cond (pvI (AA (AB (dlN D k p t).1 (p+1+t)) 1)==k) ((dlN D k p t).1.set (dlN D k p t).2 (GL (AB (dlN D k p t).1 (p+1+t))),(dlN D k p t).2+1) (dlN D k p t):=rfl;have pf:Ac (AB (dlN D k p t).1 (dlN D k p t).2) 0 (GL (AB (dlN D k p t).1 (p+1+t)))=GL (AB (dlN D k p t).1 (p+1+t)):=qC (by rw [rl];rfl);rw [e];generalize dlN D k p t=q at *
        simp only [PXb,PXc,PXn,AG,Ay hj,AN hj,AN hi,BN (show p+1+t≤1099511627776 by omega),BN (show q.2≤1099511627776 by omega),AF,Int.toNat_natCast];cases pvI (AA (AB q.1 (p+1+t)) 1)==k with
        | false=>rfl
        | true =>
         refine congrArg self ?_;refine congrArg (fun z:Rows=>([Leaf.rows z,.int ((q.2+1:Nat):Int),.int ((p+1+t+1:Nat):Int),.int k]:List AU)) ?_;exact congrArg (fun z=>List.set q.1 q.2 z) pf
       ·obtain ⟨f1,f2,f3,f4,f5⟩:=f (D.length - (p+1)) (by omega);rw [e9,List.take_length] at f3;generalize dlN D k p (D.length - (p+1))=q at *
        have g1:iRg (q.2:Int) (q.1.length:Int) (q.1.length:Int)=true:=by simp only [iRg,decide_eq_true_eq];omega
        have t1:∀ z:List PV,(List.drop (Int.toNat 0) (List.take q.2 q.1)++List.replicate (List.drop q.2 (List.take q.1.length q.1)).length z).take q.2=fil k D:=fun z=>by
         rw [← f3];show List.take q.2 (List.take q.2 q.1++_)=_;rw [List.take_append_of_le_length (by rw [List.length_take];omega),List.take_take,Nat.min_self]
        have t2:∀ z:List PV,iRg 0 (q.2:Int) (((List.drop (Int.toNat 0) (List.take q.2 q.1)++List.replicate (List.drop q.2 (List.take q.1.length q.1)).length z).length:Nat):Int)=true:=fun z=>by
         simp only [iRg,decide_eq_true_eq,List.length_append,List.length_drop,List.length_take];have:(Int.toNat 0)=0:=rfl;omega
        simp only [PXb,PXc,PXn,AG,g1,Int.toNat_natCast,t1,t2];rfl
      ·have pe:p=D.length:=by omega
       have fa:fil k D=D:=jW rd (fun x hx=>by
        obtain ⟨j,hj,e⟩:=List.getElem_of_mem hx;have:=pno j (Nat.zero_le _) (by omega);rw [Bool.not_eq_false'] at this;rw [← e];unfold AB at this
        rwa [zzk,zzn hj] at this)
       have pm:((-1:Int) == -1)=true:=rfl;simp only [PXb,fQ hp,pm,fa]
    ·have X4:(fil k D).length≤1000000:=Nat.le_trans (rU k D) (by omega);generalize fil k D=X at *
     simp only [PXb];refine AZ (CA (len:=X.length) (fun i=>[.rows (A2 (Ko (mdA r4 X) X i)),.int (i:Int)]) [.rows (A2 (Ko (mdA r4 X) X X.length))] ?_ ?_ N (by omega)) rfl
     ·intro self;simp only [PXb,PXc,PXn,AG,A3]
     ·intro i self hi;have e:Ko (mdA r4 X) X (i+1)=fJ (AB X i) (mdA r4 X i) (Ko (mdA r4 X) X i):=rfl;have ln:(Ko (mdA r4 X) X i).length≤i:=by rw [bD,List.length_map];exact jb X i
      rw [e];generalize Ko (mdA r4 X) X i=xs at *
      simp only [PXb,PXc,PXn,AG,Ay hi,AN hi,AF];have hnew:Xq X i=(Nat.beq i 0 || !(pvI (AA (AB X (i - 1)) 2)==pvI (AA (AB X i) 2))):=rfl;have hmd:mdA r4 X i=(Xq X i&&mdS r4 X (pvI (AA (AB X i) 2)) (pvI (AA (AB X i) 4))):=rfl;rw [hmd,hnew];generalize AB X i=x at *
      obtain ⟨pa1,pa2⟩:=zx (pvI (AA x 4)) xs;refine CW (v:=.int (cond (Nat.blt (FW (pvI (AA x 4)) xs) xs.length) (FW (pvI (AA x 4)) xs:Int) (-1))::GL x) ?_ ?_
      ·refine AZ (AA7 hN (show xs.length≤1000000 by omega) (b:=pvI (AA x 4)) (J:=yI x) ?_ ?_) ?_
       ·intro self;simp only [PXb,PXc,PXn,AG,PXv,A3];rfl
       ·intro j self hj;simp only [PXb,PXc,PXn,AG,PXw,BN (show j≤1099511627776 by omega),Ay (show j<(A2 xs).length by rw [Nd];exact hj),AN (show j<(A2 xs).length by rw [Nd];exact hj),yI]
       ·cases Nat.blt (FW (pvI (AA x 4)) xs) xs.length<;>rfl
      ·refine CW (v:=[.rows (A2 (Xf (pvI (AA x 4)) xs)),.int (FW (pvI (AA x 4)) xs:Int)]) ?_ ?_
       ·have ple:=NZ (fun j=>(bln xs j).p==pvI (AA x 4)) xs.length 0;rw [Nat.zero_add] at ple;change FW (pvI (AA x 4)) xs≤xs.length at ple;unfold Xf;simp only [PXb,PXc,PXn,AG,GL];generalize FW (pvI (AA x 4)) xs=q at *
        by_cases hq:q<xs.length
        ·have q0:iLt (q:Int) 0=false:=by simp only [iLt,decide_eq_false_iff_not];omega
         simp only [fK hq,cond_true,q0,cond_false]
        ·obtain rfl:q=xs.length:=by omega
         have q0:iLt (-1) 0=true:=rfl;have sm:iSm ((xs.length+1:Nat):Int) 56=true:=Gu (by omega) (by omega);have w1:IntKind.i64.wrap (((xs.length+1:Nat):Int) - 1)=(xs.length:Int):=by rw [A9 (by omega) (by omega)];omega
         simp only [fQ hq,cond_false,q0,cond_true,Nd,List.length_append,List.length_cons,List.length_nil,Nat.zero_add,sm,w1,PXx];rfl
       ·unfold fJ;generalize Xf (pvI (AA x 4)) xs=ys at *
        generalize FW (pvI (AA x 4)) xs=q at *
        have iq:iIn (q:Int) ((A2 ys).length:Int)=true:=by rw [Nd];exact AN pa1
        have bs:=fun s=>zV pa1 s
        have hz:((i:Int)==0)=Nat.beq i 0:=by
         cases i with
         | zero=>rfl
         | succ i=>exact beq_eq_false_iff_ne.2 (by omega)
        have hw:Nat.beq i 0=false→IntKind.i64.wrap ((i:Int) - 1)=((i - 1:Nat):Int)∧iIn ((i - 1:Nat):Int) (X.length:Int)=true:=fun h=>by
         have:i≠0:=fun e=>by rw [e] at h;cases h
         exact ⟨by rw [A9 (by omega) (by omega)];omega,AN (by omega)⟩
        have fin:∀ {K:Option (List PV)} {y z:BL},K=self [.rows (A2 (ys.set q y)),.int ((i+1:Nat):Int)]→y=z→K=self [.rows (A2 (ys.set q z)),.int ((i+1:Nat):Int)]:=fun {K y z} h e=>by rw [h,e]
        unfold blX;have wi:IntKind.i64.wrap ((i:Int)+1)=((i+1:Nat):Int):=BN (show i≤1099511627776 by omega);cases hn:Nat.beq i 0 with
        | true =>
         cases hct:pvB (AA x 26)<;>cases hwk:pvB (AA x 28)<;>cases ht2:pvI (AA x 8)==2<;>cases ht3:pvI (AA x 8)==3<;>simp only [PXb,PXc,PXn,AG,GL,iq,PXx,PXw,Int.toNat_natCast,bs,List.set_set,hct,hwk,ht2,ht3,hz,hn,wi]<;>(refine CW (UI hN X4) ?_;cases mdS r4 X (pvI (AA x 2)) (pvI (AA x 4))<;>rfl)
        | false =>
         obtain ⟨w1,w2⟩:=hw hn;cases ho:pvI (AA (AB X (i - 1)) 2)==pvI (AA x 2) with
         | true =>
          cases hct:pvB (AA x 26)<;>cases hwk:pvB (AA x 28)<;>cases ht2:pvI (AA x 8)==2<;>cases ht3:pvI (AA x 8)==3<;>simp only [PXb,PXc,PXn,AG,GL,iq,PXx,PXw,Int.toNat_natCast,bs,List.set_set,hct,hwk,ht2,ht3,hz,hn,wi,w1,w2,ho]<;>rfl
         | false =>
          cases hct:pvB (AA x 26)<;>cases hwk:pvB (AA x 28)<;>cases ht2:pvI (AA x 8)==2<;>cases ht3:pvI (AA x 8)==3<;>simp only [PXb,PXc,PXn,AG,GL,iq,PXx,PXw,Int.toNat_natCast,bs,List.set_set,hct,hwk,ht2,ht3,hz,hn,wi,w1,w2,ho]<;>(refine CW (UI hN X4) ?_;cases mdS r4 X (pvI (AA x 2)) (pvI (AA x 4))<;>rfl)
theorem ql {r:Rul} (rk:RulOk r) {x:List PV} (h:RowF r x):0≤pvI (AA x 25)∧pvI (AA x 25)≤36:=by
 obtain ⟨d,h0,h1,h2,h3,h4,h5⟩:=h.cre;have:=ABv rk { (evR [] 0) with kind:=4,ball:=d };rw [h5];exact this
def Ap (f:List PV→Int):Rows→Int
 | []=>0
 | x::D=>f x+Ap f D
theorem Xg (f:List PV→Int):∀ A B,Ap f (A++B)=Ap f A+Ap f B
 | [],B=>by rw [List.nil_append];show _=0+Ap f B;omega
 | x::A,B=>by
  have:=Xg f A B;show f x+Ap f (A++B)=f x+Ap f A+Ap f B;omega
theorem K2 (f:List PV→Int) {D:Rows} {i:Nat} (h:i<D.length):Ap f (D.take (i+1))=Ap f (D.take i)+f (AB D i):=by
 rw [Xn h,Xg];show _+(f (AB D i)+0)=_;omega
theorem iK {f:List PV→Int} {c:Int}:∀ (D:Rows),(∀ x,x∈D→0≤f x∧f x≤c)→0≤Ap f D∧Ap f D≤c * (D.length:Int)
 | [],_=>by
  show (0:Int)≤0∧(0:Int)≤c * ((0:Nat):Int);omega
 | x::D,h=>by
  have ih:=iK D (fun y hy=>h y (zzm _ hy));have h1:=h x zzl;have e:c * (((x::D).length:Nat):Int)=c * (D.length:Int)+c:=by rw [List.length_cons,show ((D.length+1:Nat):Int)=(D.length:Int)+1 by omega,Int.mul_add,Int.mul_one]
  rw [e];show 0≤f x+Ap f D∧f x+Ap f D≤_;omega
theorem qz {f g:List PV→Int}:∀ (D:Rows),(∀ x,x∈D→f x≤g x)→Ap f D≤Ap g D
 | [],_=>Int.le_refl _
 | x::D,h=>by
  have ih:=qz D (fun y hy=>h y (zzm _ hy));have h1:=h x zzl;show f x+Ap f D≤g x+Ap g D;omega
theorem oi {f g h:List PV→Int} {a b:Int}:∀ (D:Rows),(∀ x,x∈D→f x * a+g x * b=h x)→Ap f D * a+Ap g D * b=Ap h D
 | [],_=>by show (0:Int) * a+0 * b=0;rw [Int.zero_mul,Int.zero_mul];rfl
 | x::D,e=>by
  have ih:=oi D (fun y hy=>e y (zzm _ hy));have h1:=e x zzl;show (f x+Ap f D) * a+(g x+Ap g D) * b=h x+Ap h D;rw [Int.add_mul,Int.add_mul];omega
def bwX (x:List PV):Int:=pvI (AA x 4)
def DC (x:List PV):Int:=cond (pvB (AA x 26)) 1 0
def I8 (x:List PV):Int:=pvI (AA x 25)
def Tb (x:List PV):Int:=cond (pvB (AA x 28)) 1 0
def wdX (x:List PV):Int:=cond (pvI (AA x 8)==2) 1 0
def nbX (x:List PV):Int:=cond (pvI (AA x 8)==2) 0 (cond (pvI (AA x 8)==3) 1 0)
def BF (b:Int) (f:List PV→Int) (x:List PV):Int:=cond (bwX x==b) (f x) 0
theorem c01 (b:Bool):(0:Int)≤cond b 1 0∧(cond b 1 0:Int)≤36:=by cases b<;>decide
theorem AAL (x:List PV):0≤nbX x∧nbX x≤36:=by
 unfold nbX;cases pvI (AA x 8)==2
 ·exact c01 _
 ·exact ⟨Int.le_refl 0,(by decide:(0:Int)≤36)⟩
theorem gy {f:List PV→Int} {c b:Int} (hc:0≤c) {x:List PV} (h:0≤f x∧f x≤c):0≤BF b f x∧BF b f x≤c:=by
 unfold BF;cases bwX x==b
 ·exact ⟨Int.le_refl _,hc⟩
 ·exact h
theorem dh {md : Nat → Bool} {X : Rows} (hX : X.length ≤ 4000) (hb : ∀ x, x ∈ X → 0 ≤ I8 x ∧ I8 x ≤ 36) (b : Int) : ∀ i, i ≤ X.length →
    Cz md X b 0 i=⟨b,Ap (BF b DC) (X.take i),mdP md X b i,Ap (BF b I8) (X.take i),Ap (BF b Tb) (X.take i),Ap (BF b wdX) (X.take i),Ap (BF b nbX) (X.take i)⟩∧0≤mdP md X b i∧mdP md X b i≤(i:Int)
  | 0,_=>⟨rfl,Int.le_refl _,Int.le_refl _⟩
  | i+1,hi=>by
    obtain ⟨h1,h2,h3⟩:=dh hX hb b i (by omega);have hl:i<X.length:=by omega
    have tl:(X.take i).length=i:=by rw [List.length_take];omega
    have bd:∀ f:List PV→Int,(∀ x,x∈X→0≤f x∧f x≤36)→0≤Ap (BF b f) (X.take i)∧Ap (BF b f) (X.take i)≤144000:=fun f hf=>by
      have:=iK (f:=BF b f) (c:=36) (X.take i) (fun x hx=>gy (by omega) (hf x (List.mem_of_mem_take hx)));omega
    have b1:=bd DC (fun x _=>c01 _);have b2:=bd I8 hb;have b3:=bd Tb (fun x _=>c01 _);have b4:=bd wdX (fun x _=>c01 _);have b5:=bd nbX (fun x _=>AAL x);have hx:=hb _ (Q1 hl);have e1:Cz md X b 0 (i+1)=cond (bwX (AB X i)==b) (blX (AB X i) (md i) (Cz md X b 0 i)) (Cz md X b 0 i):=rfl;have e2:mdP md X b (i+1)=cond (bwX (AB X i)==b&&md i) (wr6 (mdP md X b i+1)) (mdP md X b i):=rfl;rw [e1,e2,K2 _ hl,K2 _ hl,K2 _ hl,K2 _ hl,K2 _ hl,h1];generalize Ap (BF b DC) (X.take i)=s1 at *
    generalize Ap (BF b I8) (X.take i)=s2 at *
    generalize Ap (BF b Tb) (X.take i)=s3 at *
    generalize Ap (BF b wdX) (X.take i)=s4 at *
    generalize Ap (BF b nbX) (X.take i)=s5 at *
    generalize mdP md X b i=m at *
    generalize AB X i=x at *
    have w:∀ n:Int,0≤n→n≤1000000→wr6 n=n:=fun n h1 h2=>A9 (by omega) (by omega)
    have w1:=w (s1+1) (by omega) (by omega);have w2:=w (s2+pvI (AA x 25)) (by unfold I8 at hx;omega) (by unfold I8 at hx;omega);have w3:=w (s3+1) (by omega) (by omega);have w4:=w (s4+1) (by omega) (by omega);have w5:=w (s5+1) (by omega) (by omega);have w6:=w (m+1) (by omega) (by omega);unfold BF blX;simp only [w1,w2,w3,w4,w5,w6];cases bwX x==b with
    | false=>exact ⟨by simp only [cond_false,Int.add_zero,Bool.false_and],by simp only [Bool.false_and,cond_false];omega,by simp only [Bool.false_and,cond_false];omega⟩
    | true =>
      unfold DC I8 Tb wdX nbX;refine ⟨?_,?_,?_⟩
      · cases md i<;>cases pvB (AA x 26)<;>cases pvB (AA x 28)<;>cases pvI (AA x 8)==2<;>cases pvI (AA x 8)==3<;>simp only [cond_true,cond_false,Int.add_zero,Bool.true_and]
      · cases md i<;>simp only [cond_true,cond_false,Bool.true_and]<;>omega
      · cases md i<;>simp only [cond_true,cond_false,Bool.true_and]<;>omega
def Js (g:Int→Int):List Int→Int
 | []=>0
 | b::B=>g b+Js g B
theorem lG:∀ B,Js (fun _=>0) B=0
 | []=>rfl
 | b::B=>by
  have:=lG B;show 0+Js (fun _=>0) B=0;omega
theorem oA (g h:Int→Int):∀ B,Js (fun b=>g b+h b) B=Js g B+Js h B
 | []=>rfl
 | b::B=>by
  have:=oA g h B;show g b+h b+Js (fun b=>g b+h b) B=g b+Js g B+(h b+Js h B);omega
theorem lJ {c v:Int}:∀ {B:List Int},c∉B→Js (fun b=>cond (c==b) v 0) B=0
 | [],_=>rfl
 | b::B,h=>by
  have ih:=lJ (c:=c) (v:=v) (B:=B) (fun hm=>h (zzm _ hm));show cond (c==b) v 0+Js (fun b=>cond (c==b) v 0) B=0;rw [ih,beq_eq_false_iff_ne.2 (fun e=>h (by rw [e];exact zzl))];rfl
theorem mt {c v:Int}:∀ {B:List Int},B.Nodup→c∈B→Js (fun b=>cond (c==b) v 0) B=v
 | [],_,h=>absurd h List.not_mem_nil
 | b::B,hn,h=>by
  obtain ⟨n1,n2⟩:=List.nodup_cons.1 hn;show cond (c==b) v 0+Js (fun b=>cond (c==b) v 0) B=v
  by_cases e:c=b
  ·subst e;rw [lJ n1,beq_self_eq_true];show v+0=v;omega
  ·have hc:c∈B:=(List.mem_cons.1 h).resolve_left e;rw [mt n2 hc,beq_eq_false_iff_ne.2 e];show 0+v=v;omega
theorem vN {B:List Int} (hn:B.Nodup) (f:List PV→Int):∀ (D:Rows),(∀ x,x∈D→bwX x∈B)→Js (fun b=>Ap (BF b f) D) B=Ap f D
 | [],_=>lG B
 | x::D,h=>by
  have ih:=vN hn f D (fun y hy=>h y (zzm _ hy));have h1:=h x zzl;show Js (fun b=>BF b f x+Ap (BF b f) D) B=f x+Ap f D;rw [oA,ih];refine congrArg (·+_) ?_;exact mt hn h1
theorem y3 (X:Rows) {b:Int}:∀ {i j:Nat},i≤j→b∈boN X i→b∈boN X j:=by
 intro i j h
 induction j with
 | zero =>
  intro hb;obtain rfl:i=0:=by omega
  exact hb
 | succ j ih =>
  intro hb
  rcases Nat.lt_or_ge i (j+1) with hl | hl
  ·have:=ih (by omega) hb;show b∈cond _ (boN X j) (boN X j++[_]);cases (boN X j).any (·==pvI (AA (AB X j) 4))
   ·exact List.mem_append_left _ this
   ·exact this
  ·obtain rfl:i=j+1:=by omega
   exact hb
theorem AAH (X:Rows) {i:Nat} (hi:i<X.length):bwX (AB X i)∈boN X X.length:=by
 refine y3 X (show i+1≤X.length by omega) ?_;show _∈cond ((boN X i).any (·==pvI (AA (AB X i) 4))) (boN X i) (boN X i++[_]);cases ha:(boN X i).any (·==pvI (AA (AB X i) 4)) with
 | true =>
  obtain ⟨y,hy,hye⟩:=List.any_eq_true.1 ha;have:=beq_iff_eq.1 hye;show pvI (AA (AB X i) 4)∈boN X i;rw [← this];exact hy
 | false=>exact List.mem_append_right _ (List.mem_singleton.2 rfl)
theorem ABL (X:Rows):∀ x,x∈X→bwX x∈boN X X.length:=fun x hx=>by
 obtain ⟨j,hj,e⟩:=List.getElem_of_mem hx;have:=AAH X hj;unfold AB at this
 rwa [zzk,zzn hj,Option.getD_some,e] at this
theorem jd (X:Rows) {b:Int}:∀ {i:Nat},i≤X.length→b∈boN X i→∃ x,x∈X∧bwX x=b
 | 0,_,h=>absurd h List.not_mem_nil
 | i+1,hi,h=>by
  change b∈cond ((boN X i).any (·==pvI (AA (AB X i) 4))) (boN X i) (boN X i++[_]) at h;cases ha:(boN X i).any (·==pvI (AA (AB X i) 4)) with
  | true=>rw [ha] at h;exact jd X (by omega) h
  | false =>
   rw [ha] at h
   rcases List.mem_append.1 h with h | h
   ·exact jd X (by omega) h
   ·exact ⟨AB X i,Q1 (by omega),(List.mem_singleton.1 h).symm⟩
def OvF (bal:Int) (X:Rows):Prop:=∀ i,i<X.length→pvI (AA (AB X i) 2) * bal≤Ap DC (X.take i)∧Ap DC (X.take i)<pvI (AA (AB X i) 2) * bal+bal
theorem xp {f:List PV→Int} (hf:∀ x,0≤f x) (X:Rows) {i:Nat}:∀ {j:Nat},i≤j→j≤X.length→Ap f (X.take i)≤Ap f (X.take j):=by
 intro j h
 induction j with
 | zero =>
  intro _;obtain rfl:i=0:=by omega
  exact Int.le_refl _
 | succ j ih =>
  intro hj
  rcases Nat.lt_or_ge i (j+1) with hl | hl
  ·have:=ih (by omega) (by omega);rw [K2 _ (show j<X.length by omega)];have:=hf (AB X j);omega
  ·obtain rfl:i=j+1:=by omega
   exact Int.le_refl _
theorem jJ {bal:Int} (hb:0<bal) {X:Rows} (h:OvF bal X) {i j:Nat} (hi:i≤j) (hj:j<X.length):pvI (AA (AB X i) 2)≤pvI (AA (AB X j) 2):=by
 have h1:=(h i (by omega)).1;have h2:=(h j hj).2;have h3:=xp (f:=DC) (fun x=>(c01 _).1) X hi (by omega);refine Int.not_lt.1 (fun hl=>?_);have h4:(pvI (AA (AB X j) 2)+1) * bal≤pvI (AA (AB X i) 2) * bal:=Int.mul_le_mul_of_nonneg_right (by omega) (by omega);rw [Int.add_mul,Int.one_mul] at h4;omega
theorem AA8 (X:Rows) (o:Int):∀ i,i≤4000→0≤CZ X o i∧CZ X o i≤(i:Int)∧CZ X o (i+1)=CZ X o i+cond ((pvI (AA (AB X i) 2)==o)&&pvB (AA (AB X i) 26)) 1 0
 | i,hi=>by
  have b:∀ j,j≤i→0≤CZ X o j∧CZ X o j≤(j:Int):=by
   intro j
   induction j with
   | zero=>intro _;exact ⟨Int.le_refl _,Int.le_refl _⟩
   | succ j ih =>
    intro hj;have:=ih (by omega);show 0≤cond _ (wr6 (CZ X o j+1)) (CZ X o j)∧cond _ (wr6 (CZ X o j+1)) (CZ X o j)≤_;rw [show wr6 (CZ X o j+1)=CZ X o j+1 from A9 (by omega) (by omega)];cases (pvI (AA (AB X j) 2)==o)&&pvB (AA (AB X j) 26)
    ·show 0≤CZ X o j∧CZ X o j≤_;omega
    ·show 0≤CZ X o j+1∧CZ X o j+1≤_;omega
  have bi:=b i (Nat.le_refl _);refine ⟨bi.1,bi.2,?_⟩;show cond _ (wr6 (CZ X o i+1)) (CZ X o i)=_;rw [show wr6 (CZ X o i+1)=CZ X o i+1 from A9 (by omega) (by omega)];cases (pvI (AA (AB X i) 2)==o)&&pvB (AA (AB X i) 26)
  ·show CZ X o i=CZ X o i+0;omega
  ·rfl
theorem oa {X:Rows} {o:Int} {i:Nat}:∀ {j:Nat},i≤j→j≤4000→(∀ k,i≤k→k<j→(pvI (AA (AB X k) 2)==o)=false)→CZ X o j=CZ X o i:=by
 intro j h
 induction j with
 | zero =>
  intro _ _;obtain rfl:i=0:=by omega
  rfl
 | succ j ih =>
  intro hj hk
  rcases Nat.lt_or_ge i (j+1) with hl | hl
  ·rw [(AA8 X o j (by omega)).2.2,hk j (by omega) (by omega),ih (by omega) (by omega) (fun k h1 h2=>hk k h1 (by omega))];show CZ X o i+0=_;omega
  ·obtain rfl:i=j+1:=by omega
   rfl
def iy (bal:Int) (X:Rows) (b:Int):Nat→Int
 | 0=>0
 | i+1=>cond (mdS bal X (pvI (AA (AB X i) 2)) b) (bal - CZ X (pvI (AA (AB X i) 2)) (i+1)) 0
theorem uq {bal:Int} (hb:0<bal) {X:Rows} (hX:X.length≤4000) (ov:OvF bal X) (b:Int):∀ i,i≤X.length→mdP (mdA bal X) X b i * bal≤Ap (BF b DC) (X.take i)+iy bal X b i∧0≤mdP (mdA bal X) X b i∧mdP (mdA bal X) X b i≤(i:Int)
 | 0,_=>⟨by show (0:Int) * bal≤0+0;rw [Int.zero_mul];exact Int.le_refl _,Int.le_refl _,Int.le_refl _⟩
 | i+1,hi=>by
  obtain ⟨h1,h2,h3⟩:=uq hb hX ov b i (by omega);have hl:i<X.length:=by omega
  have e2:mdP (mdA bal X) X b (i+1)=cond (bwX (AB X i)==b&&(Xq X i&&mdS bal X (pvI (AA (AB X i) 2)) (bwX (AB X i)))) (wr6 (mdP (mdA bal X) X b i+1)) (mdP (mdA bal X) X b i):=rfl;have e3:iy bal X b (i+1)=cond (mdS bal X (pvI (AA (AB X i) 2)) b) (bal - CZ X (pvI (AA (AB X i) 2)) (i+1)) 0:=rfl;have w:wr6 (mdP (mdA bal X) X b i+1)=mdP (mdA bal X) X b i+1:=A9 (by omega) (by omega);have c1:=AA8 X (pvI (AA (AB X i) 2)) i (by omega);have sel0:0≤BF b DC (AB X i):=(gy (c:=36) (by omega) (c01 _)).1;rw [e2,e3,w,K2 _ hl,c1.2.2,beq_self_eq_true,Bool.true_and];have hnew:Xq X i=true→iy bal X b i=0∧CZ X (pvI (AA (AB X i) 2)) i=0:=fun hn=>by
   cases i with
   | zero=>exact ⟨rfl,rfl⟩
   | succ j =>
    have hne:(pvI (AA (AB X j) 2)==pvI (AA (AB X (j+1)) 2))=false:=by
     have:(Nat.beq (j+1) 0 || !(pvI (AA (AB X j) 2)==pvI (AA (AB X (j+1)) 2)))=true:=hn;rw [show Nat.beq (j+1) 0=false from rfl,Bool.false_or,Bool.not_eq_true'] at this;exact this
    have lt:pvI (AA (AB X j) 2)<pvI (AA (AB X (j+1)) 2):=by
     have:=jJ hb ov (show j≤j+1 by omega) hl;have:=beq_eq_false_iff_ne.1 hne;omega
    refine ⟨?_,?_⟩
    ·show cond (mdS bal X (pvI (AA (AB X j) 2)) b) (bal - CZ X (pvI (AA (AB X j) 2)) (j+1)) 0=0;cases hm:mdS bal X (pvI (AA (AB X j) 2)) b with
     | false=>rfl
     | true =>
      have hc:=beq_iff_eq.1 (ir.1 hm).2;have:=oa (X:=X) (o:=pvI (AA (AB X j) 2)) (i:=j+1) (j:=X.length) (by omega) hX (fun k hk1 hk2=>beq_eq_false_iff_ne.2 (by have:=jJ hb ov hk1 hk2;omega));rw [this] at hc;show bal - _=0;omega
    ·refine (oa (X:=X) (o:=pvI (AA (AB X (j+1)) 2)) (i:=0) (j:=j+1) (by omega) (by omega) (fun k _ hk2=>beq_eq_false_iff_ne.2 ?_)).trans rfl;have:=jJ hb ov (show k≤j by omega) (by omega);omega
  have hold:Xq X i=false→iy bal X b i=cond (mdS bal X (pvI (AA (AB X i) 2)) b) (bal - CZ X (pvI (AA (AB X i) 2)) i) 0:=fun hn=>by
   cases i with
   | zero=>cases hn
   | succ j =>
    have hne:(pvI (AA (AB X j) 2)==pvI (AA (AB X (j+1)) 2))=true:=by
     have:(Nat.beq (j+1) 0 || !(pvI (AA (AB X j) 2)==pvI (AA (AB X (j+1)) 2)))=false:=hn;rw [show Nat.beq (j+1) 0=false from rfl,Bool.false_or,Bool.not_eq_false'] at this;exact this
    show cond (mdS bal X (pvI (AA (AB X j) 2)) b) (bal - CZ X (pvI (AA (AB X j) 2)) (j+1)) 0=_;rw [beq_iff_eq.1 hne]
  have hbw:mdS bal X (pvI (AA (AB X i) 2)) b=true→(bwX (AB X i)==b)=true:=fun hm=>((ir.1 hm).1 i hl (beq_self_eq_true _)).1
  have mb:∀ m:Int,(m+1) * bal=m * bal+bal:=fun m=>by rw [Int.add_mul,Int.one_mul]
  cases hm:mdS bal X (pvI (AA (AB X i) 2)) b with
  | true =>
   have hb1:=hbw hm;have hsel:BF b DC (AB X i)=cond (pvB (AA (AB X i) 26)) 1 0:=by unfold BF;rw [hb1];rfl
   rw [hb1,beq_iff_eq.1 hb1,hm,hsel,Bool.true_and,Bool.and_true];cases hn:Xq X i with
   | true =>
    obtain ⟨r1,r2⟩:=hnew hn;rw [r2];simp only [cond_true,mb];refine ⟨?_,by omega,by omega⟩;cases pvB (AA (AB X i) 26)
    ·show _≤_+0+(bal - (0+0));omega
    ·show _≤_+1+(bal - (0+1));omega
   | false =>
    have r1:=hold hn;rw [hm,cond_true] at r1;simp only [cond_true,cond_false];refine ⟨?_,by omega,by omega⟩;cases pvB (AA (AB X i) 26)
    ·show _≤_+0+(bal - (_+0));omega
    ·show _≤_+1+(bal - (_+1));omega
  | false =>
   have hno:(bwX (AB X i)==b&&(Xq X i&&mdS bal X (pvI (AA (AB X i) 2)) (bwX (AB X i))))=false:=by
    cases hb1:bwX (AB X i)==b with
    | false=>rfl
    | true=>rw [beq_iff_eq.1 hb1,hm,Bool.and_false,Bool.and_false]
   rw [hno];simp only [cond_false];refine ⟨?_,by omega,by omega⟩;have hr:iy bal X b i=0:=by
    cases hn:Xq X i with
    | true=>exact (hnew hn).1
    | false=>rw [hold hn,hm];rfl
   omega
theorem ABF {bal:Int} (hb:0<bal) {X:Rows} (hX:X.length≤4000) (ov:OvF bal X) (b:Int):mdP (mdA bal X) X b X.length * bal≤Ap (BF b DC) X∧0≤mdP (mdA bal X) X b X.length:=by
 obtain ⟨h1,h2,h3⟩:=uq hb hX ov b X.length (Nat.le_refl _);rw [List.take_length] at h1;have hr:iy bal X b X.length=0:=by
  generalize hn:X.length=n at *
  cases n with
  | zero=>rfl
  | succ j =>
   show cond (mdS bal X (pvI (AA (AB X j) 2)) b) (bal - CZ X (pvI (AA (AB X j) 2)) (j+1)) 0=0;cases hm:mdS bal X (pvI (AA (AB X j) 2)) b with
   | false=>rfl
   | true =>
    have hc:=beq_iff_eq.1 (ir.1 hm).2;rw [hn] at hc;show bal - _=0;omega
 exact ⟨by omega,h2⟩
theorem j9 {r : Rul} (rk : RulOk r) {d : Del} (hl : (Dp d == 0) = true) : (cond (d.type == 2) 1 0 : Int) * r.wide + (cond (d.type == 2) 0 (cond (d.type == 3) 1 0) : Int) * r.noball ≤ (AD r d).bowler ∧
    (cond (d.type==2) 0 (cond (d.type==3) 1 0):Int) * r.noball=(AD r d).noballs:=by
  have ok:=ff rk d;have bo:=ok.bo;have ba:=ok.ba;have wi:=ok.wi;have no:=ok.no;have e:AD r d=KA r d:=by unfold AD;rw [hl];rfl
  rw [e] at bo ba wi no ⊢;have w:(KA r d).wides=cond (d.type==2) (IntKind.i64.wrap (r.wide+IntKind.i64.wrap (IntKind.i64.wrap (d.runs - d.short)+d.boundary))) 0:=rfl;have o:(KA r d).noballs=cond (d.type==3) r.noball 0:=rfl;have n0:0≤IntKind.i64.wrap (IntKind.i64.wrap (d.runs - d.short)+d.boundary)∧IntKind.i64.wrap (IntKind.i64.wrap (d.runs - d.short)+d.boundary)≤13:=by
    unfold Dp at hl;cases h1:(iLt d.type 1||iLt 3 d.type||iLt 3 d.source||iLt 10 d.how || !btw d.sector 0 8) with
    | true=>rw [h1] at hl;cases hl
    | false =>
      cases h2:(!btw d.runs 0 7 || !btw d.short 0 d.runs||(!(d.boundary==0) && !(d.boundary==4) && !(d.boundary==6))) with
      | true=>rw [h1,h2] at hl;cases hl
      | false =>
        rw [Bool.or_eq_false_iff,Bool.or_eq_false_iff] at h2;obtain ⟨⟨a1,a2⟩,a3⟩:=h2;simp only [btw,iLe,Bool.not_eq_false',zzj,decide_eq_true_eq] at a1 a2;have a4:d.boundary=0∨d.boundary=4∨d.boundary=6:=by
          cases b0:d.boundary==0 with
          | true=>exact .inl (beq_iff_eq.1 b0)
          | false =>
            cases b4:d.boundary==4 with
            | true=>exact .inr (.inl (beq_iff_eq.1 b4))
            | false =>
              cases b6:d.boundary==6 with
              | true=>exact .inr (.inr (beq_iff_eq.1 b6))
              | false=>rw [b0,b4,b6] at a3;cases a3
        rw [show IntKind.i64.wrap (d.runs - d.short)=d.runs - d.short from A9 (by omega) (by omega),A9 (by omega) (by omega)];omega
  have rw:=rk.wide;rw [show IntKind.i64.wrap (r.wide+IntKind.i64.wrap (IntKind.i64.wrap (d.runs - d.short)+d.boundary))=r.wide+IntKind.i64.wrap (IntKind.i64.wrap (d.runs - d.short)+d.boundary) from A9 (by omega) (by omega)] at w;rw [w] at wi;rw [o] at no;rw [bo,o,w];cases h2:d.type==2 with
  | true =>
    have h3:(d.type==3)=false:=by rw [beq_iff_eq.1 h2];rfl
    rw [h3];simp only [h2,h3,cond_true,cond_false,Int.one_mul,Int.zero_mul] at wi no ⊢;refine ⟨?_,?_⟩<;>first | omega | trivial | rfl
  | false =>
    cases h3:d.type==3<;>simp only [h2,h3,cond_true,cond_false,Int.one_mul,Int.zero_mul] at wi no ⊢<;>refine ⟨?_,?_⟩<;>first | omega | trivial | rfl
theorem ABM {r:Rul} {L:Rows} (hc:Ak r L=0) {a:Nat} (ha:a<L.length) (hk:((evR L a).kind==4)=true):(AJ (stM L a 0 (AK r).1)).complete * r.balls+(AJ (stM L a 0 (AK r).1)).inover=smi L (O6 r) (opn L a - 1) a:=by
 have bf:=N1 hc ha hk;obtain ⟨h1,h2,h3,h4,h5⟩:=Bc hc;obtain ⟨li,so,_⟩:=Er h1 h4 a (by omega);have sl:=so.len;have ll:=li.len;have one:=bf.one;have lx:=bf.lnx;have rl:=so.rules;have cl:=hC h1 h4 a (by omega);have at1:=cl.at' (opn L a - 1) (by omega);have kx:sco (EA (stM L a 0 (AK r).1)).xs (opn L a - 1)=Be r.balls (AJ (stM L a 0 (AK r).1)):=by
  unfold EA AJ;rw [rl,lx];exact Nh _ _ (by omega)
 rw [kx] at at1;have bl:DG r.balls (AJ (stM L a 0 (AK r).1)).complete (AJ (stM L a 0 (AK r).1)).inover=smi L (O6 r) (opn L a - 1) a:=congrArg Sco.balls at1;have be:=(dG bf.ok).1;rw [← bl,be,Int.mul_comm]
structure RowH (r:Rul) (x:List PV):Prop where
 bw:1≤bwX x∧bwX x≤r.side
 part:wdX x * r.wide+nbX x * r.noball≤I8 x
theorem ABT {r:Rul} {L:Rows} (hc:Ak r L=0) {a:Nat} (ha:a<L.length) (hk:((evR L a).kind==4)=true) (t:Mat):RowH r (Bh (a:Int) (stM L a 0 (AK r).1) t (evR L a).ball):=by
 have bf:=N1 hc ha hk;have rl:=bf.rules;obtain ⟨q1,q2,q3,q4,q5,q6⟩:=HT bf.ref;have bo:=bf.ok.bow;rw [beq_eq_false_iff_ne] at q2;refine ⟨?_,?_⟩
 ·show 1≤(AJ (stM L a 0 (AK r).1)).bowler∧(AJ (stM L a 0 (AK r).1)).bowler≤r.side;omega
 ·have:=(j9 (mD hc).2 q4).1;show _≤(AD (stM L a 0 (AK r).1).rules _).bowler;rw [rl];exact this
structure BalH (r:Rul) (L:Rows) (k n:Nat):Prop where
 cnt:Ap DC (Aw r L k n)=smi L (O6 r) k n
 bow:Ap I8 (Aw r L k n)=smi L (fun e=>(A1 r e).bowler) k n
 nob:Ap nbX (Aw r L k n) * r.noball=smi L (fun e=>(A1 r e).noballs) k n
 wkt:Ap Tb (Aw r L k n)≤smi L Bp k n
 row:∀ x,x∈Aw r L k n→RowH r x
 ov:OvF r.balls (Aw r L k n)
theorem yQ {r:Rul} {L:Rows} (hc:Ak r L=0) (k:Nat):∀ n,n≤L.length→BalH r L k n
 | 0,_=>⟨rfl,rfl,Int.zero_mul _,Int.le_refl _,fun x hx=>absurd hx List.not_mem_nil,fun i hi=>absurd hi (Nat.not_lt_zero i)⟩
 | n+1,hn=>by
  obtain ⟨i1,i2,i3,i4,i5,i6⟩:=yQ hc k n (by omega);have e:Aw r L k (n+1)=cond ((evR L n).kind==4&&Nat.beq (opn L (n+1)) (k+1)) (Aw r L k n++[Bh (n:Int) (stM L n 0 (AK r).1) (stM L (n+1) 0 (AK r).1) (evR L n).ball]) (Aw r L k n):=rfl;have cc:∀ b:Bool,cond b (0:Int) 0=0:=fun b=>by cases b<;>rfl
  cases hk:(evR L n).kind==4 with
  | false =>
   rw [hk,Bool.false_and,cond_false] at e;have od:∀ b:Bool,0≤(cond b (Bp (evR L n)) 0:Int):=fun b=>by
    have:=(vY (evR L n)).1;cases b
    ·exact Int.le_refl _
    ·exact this
   have z1:O6 r (evR L n)=0:=by unfold O6 A1;rw [hk];rfl
   have z2:(A1 r (evR L n)).bowler=0:=by unfold A1;rw [hk];rfl
   have z3:(A1 r (evR L n)).noballs=0:=by unfold A1;rw [hk];rfl
   refine ⟨?_,?_,?_,?_,?_,?_⟩
   ·rw [e,CP,z1,cc,i1];omega
   ·rw [e,CP,z2,cc,i2];omega
   ·rw [e,CP,z3,cc,i3];omega
   ·rw [e,CP];have:=od (Nat.beq (opn L (n+1)) (k+1));omega
   ·rw [e];exact i5
   ·rw [e];exact i6
  | true =>
   have ha:n<L.length:=by omega
   have bf:=N1 hc ha hk;have rl:=bf.rules;cases hq:Nat.beq (opn L (n+1)) (k+1) with
   | false =>
    rw [hk,hq,Bool.true_and,cond_false] at e;refine ⟨?_,?_,?_,?_,?_,?_⟩
    ·rw [e,CP,hq,i1];exact (Int.add_zero _).symm
    ·rw [e,CP,hq,i2];exact (Int.add_zero _).symm
    ·rw [e,CP,hq,i3];exact (Int.add_zero _).symm
    ·rw [e,CP,hq];show _≤_+0;omega
    ·rw [e];exact i5
    ·rw [e];exact i6
   | true =>
    rw [hk,hq,Bool.true_and,cond_true] at e;obtain ⟨q1,q2,q3,q4,q5,q6⟩:=HT bf.ref;have rp:=j9 (mD hc).2 q4;have ce:A1 r (evR L n)=AD r (evR L n).ball:=by unfold A1;rw [hk];rfl
    have on:opn L (n+1)=opn L n:=YN (by rw [beq_iff_eq.1 hk];rfl);have ok1:opn L n - 1=k:=by have:=Nat.eq_of_beq_eq_true hq;omega
    have bc:=ABM hc ha hk;rw [ok1] at bc;have io:=bf.ok.io;have wk:Tb (Bh (n:Int) (stM L n 0 (AK r).1) (stM L (n+1) 0 (AK r).1) (evR L n).ball)≤Bp (evR L n):=by
     have e1:Tb (Bh (n:Int) (stM L n 0 (AK r).1) (stM L (n+1) 0 (AK r).1) (evR L n).ball)=cond (Ww (evR L n).ball.how) 1 0:=by
      show cond ((AD (stM L n 0 (AK r).1).rules (evR L n).ball).wicket) 1 0=_;have:AD (stM L n 0 (AK r).1).rules (evR L n).ball=KA (stM L n 0 (AK r).1).rules (evR L n).ball:=by unfold AD;rw [q4];rfl
      rw [this];rfl
     rw [e1];unfold Bp;rw [hk];cases h0:(evR L n).ball.how==0 with
     | true=>rw [beq_iff_eq.1 h0];exact Int.le_refl _
     | false =>
      cases Ww (evR L n).ball.how
      ·exact (by decide:(0:Int)≤1)
      ·exact (by decide:(1:Int)≤1)
    have one:∀ f:List PV→Int,Ap f (Aw r L k n++[Bh (n:Int) (stM L n 0 (AK r).1) (stM L (n+1) 0 (AK r).1) (evR L n).ball])=Ap f (Aw r L k n)+f (Bh (n:Int) (stM L n 0 (AK r).1) (stM L (n+1) 0 (AK r).1) (evR L n).ball):=fun f=>by
     rw [Xg];show _+(f _+0)=_;omega
    refine ⟨?_,?_,?_,?_,?_,?_⟩
    ·rw [e,CP,hq,one,i1];show _+cond ((AD (stM L n 0 (AK r).1).rules (evR L n).ball).counts) 1 0=_+O6 r (evR L n);rw [rl];unfold O6;rw [ce]
    ·rw [e,CP,hq,one,i2];show _+(AD (stM L n 0 (AK r).1).rules (evR L n).ball).bowler=_+(A1 r (evR L n)).bowler;rw [rl,ce]
    ·rw [e,CP,hq,one,Int.add_mul,i3];show _+_=_+(A1 r (evR L n)).noballs;rw [ce];exact congrArg (_+·) rp.2
    ·rw [e,CP,hq,one];show _≤_+Bp (evR L n);omega
    ·rw [e];intro x hx
     rcases List.mem_append.1 hx with hx | hx
     ·exact i5 x hx
     ·rw [List.mem_singleton.1 hx];exact ABT hc ha hk _
    ·rw [e];intro i hi;rw [List.length_append] at hi;change i<(Aw r L k n).length+1 at hi
     by_cases hl:i<(Aw r L k n).length
     ·have hr:AB (Aw r L k n++[Bh (n:Int) (stM L n 0 (AK r).1) (stM L (n+1) 0 (AK r).1) (evR L n).ball]) i=AB (Aw r L k n) i:=by
       unfold AB;rw [zzk,zzk,List.getElem?_append_left hl]
      rw [hr,List.take_append_of_le_length (by omega)];exact i6 i hl
     ·obtain rfl:i=(Aw r L k n).length:=by omega
      have hr:AB (Aw r L k n++[Bh (n:Int) (stM L n 0 (AK r).1) (stM L (n+1) 0 (AK r).1) (evR L n).ball]) (Aw r L k n).length=Bh (n:Int) (stM L n 0 (AK r).1) (stM L (n+1) 0 (AK r).1) (evR L n).ball:=by
       unfold AB;rw [zzk,List.getElem?_append_right (Nat.le_refl _),Nat.sub_self];rfl
      rw [hr,List.take_append_of_le_length (Nat.le_refl _),List.take_length,i1,← bc];show (AJ (stM L n 0 (AK r).1)).complete * r.balls≤_∧_<(AJ (stM L n 0 (AK r).1)).complete * r.balls+r.balls;omega
def Db (g:BL→Int):List BL→Int
 | []=>0
 | s::xs=>g s+Db g xs
theorem Sl (g:BL→Int):∀ {xs:List BL} {j:Nat},j<xs.length→Db g (xs.take (j+1))=Db g (xs.take j)+g (bln xs j)
 | [],j,h=>absurd h (Nat.not_lt_zero j)
 | s::xs,0,_=>by
  show g s+0=0+g s;omega
 | s::xs,j+1,h=>by
  have:=Sl g (xs:=xs) (j:=j) (Nat.lt_of_succ_lt_succ h);show g s+Db g (xs.take (j+1))=g s+Db g (xs.take j)+g (bln xs j);omega
theorem iU {g:BL→Int} {xs:List BL} (hx:∀ s,s∈xs→0≤g s∧g s≤1000000):∀ j,j≤xs.length→0≤Db g (xs.take j)∧Db g (xs.take j)≤1000000 * (j:Int)
 | 0,_=>by
  show (0:Int)≤0∧(0:Int)≤1000000 * ((0:Nat):Int);omega
 | j+1,hj=>by
  have ih:=iU hx j (by omega);have h1:=hx (bln xs j) (by rw [TQ (by omega)];exact List.getElem_mem _);rw [Sl g (by omega)];omega
theorem Qy (g:BL→Int) (f:Int→BL):∀ B:List Int,Db g (B.map f)=Js (fun b=>g (f b)) B
 | []=>rfl
 | b::B=>by
  have:=Qy g f B;show g (f b)+Db g (B.map f)=g (f b)+Js (fun b=>g (f b)) B;omega
set_option maxHeartbeats 1000000 in
theorem em {N:Nat} {xs:List BL} (hN:2097152<N) (hl:xs.length≤4000) (hx:∀ s,s∈xs→0≤s.r∧s.r≤1000000):HM N [.rows (A2 xs)]=some [.int (Db BL.r xs)]:=by
 show J5 (std (SC N) N) (xOf _)=_;simp only [J5,lq9,std,xOf,PXb];have e:Db BL.r (xs.take xs.length)=Db BL.r xs:=by rw [List.take_length]
 refine AZ (CA (len:=xs.length) (fun j=>[.int (Db BL.r (xs.take j)),.int (j:Int)]) [.int (Db BL.r xs)] ?_ ?_ N (by omega)) rfl
 ·intro self;simp only [PXb,PXc,PXn,AG,PXv,A3,e]
 ·intro j self hj;have b:=iU (g:=BL.r) hx j (by omega);have h1:=hx (bln xs j) (by rw [TQ hj];exact List.getElem_mem _);have w:IntKind.i64.wrap (Db BL.r (xs.take j)+(bln xs j).r)=Db BL.r (xs.take j)+(bln xs j).r:=A9 (by omega) (by omega);simp only [PXb,PXc,PXn,AG,PXv,BN (show j≤1099511627776 by omega),Ay hj,AN hj,w,Sl BL.r hj]
def lnY (bal:Int) (X:Rows) (b:Int):BL:=⟨b,Ap (BF b DC) X,mdP (mdA bal X) X b X.length,Ap (BF b I8) X,Ap (BF b Tb) X,Ap (BF b wdX) X,Ap (BF b nbX) X⟩
structure LineF (r:Rul) (s:BL):Prop where
 p:1≤s.p∧s.p≤r.side
 b:0≤s.b∧s.b≤1000000
 m:0≤s.m * r.balls∧s.m * r.balls≤s.b
 rr:0≤s.r∧s.r≤1000000
 w:0≤s.w∧s.w≤1000000
 nb:0≤s.nb∧s.nb≤1000000
 part:0≤s.wd * r.wide∧0≤s.nb * r.noball∧s.wd * r.wide+s.nb * r.noball≤s.r
structure FigF (r:Rul) (X:Rows) (xs:List BL):Prop where
 len:xs.length≤4000
 line:∀ s,s∈xs→LineF r s
 sb:Db BL.b xs=Ap DC X
 sr:Db BL.r xs=Ap I8 X
 sw:Db BL.w xs=Ap Tb X
 sn:Db BL.nb xs=Ap nbX X
theorem ABc {r:Rul} (rk:RulOk r) {X:Rows} (hX:X.length≤4000) (hb:∀ x,x∈X→0≤I8 x∧I8 x≤36) (hr:∀ x,x∈X→RowH r x) (ov:OvF r.balls X):FigF r X (Ko (mdA r.balls X) X X.length):=by
 have e:Ko (mdA r.balls X) X X.length=(boN X X.length).map (lnY r.balls X):=by
  rw [bD];refine List.map_congr_left (fun b _=>?_);rw [(dh hX hb b X.length (Nat.le_refl _)).1,List.take_length];rfl
 rw [e];have nd:=aQ X X.length;have all:=ABL X;have sm:∀ f,Js (fun b=>Ap (BF b f) X) (boN X X.length)=Ap f X:=fun f=>vN nd f X all
 have bd:∀ (b:Int) (f:List PV→Int),(∀ x,x∈X→0≤f x∧f x≤36)→0≤Ap (BF b f) X∧Ap (BF b f) X≤1000000:=fun b f hf=>by
  have:=iK (f:=BF b f) (c:=36) X (fun x hx=>gy (by omega) (hf x hx));omega
 have rb:=rk.balls;have rw':=rk.wide;have rn:=rk.noball;refine ⟨by rw [List.length_map];exact Nat.le_trans (jb X X.length) hX,fun s hs=>?_,(Qy _ _ _).trans (sm DC),(Qy _ _ _).trans (sm I8),(Qy _ _ _).trans (sm Tb),(Qy _ _ _).trans (sm nbX)⟩;obtain ⟨b,hbm,rfl⟩:=List.mem_map.1 hs;obtain ⟨x,hx,hxb⟩:=jd X (Nat.le_refl _) hbm;have m1:=ABF (show 0<r.balls by omega) hX ov b;have b1:=bd b DC (fun x _=>c01 _);have b2:=bd b I8 hb;have b3:=bd b Tb (fun x _=>c01 _);have b4:=bd b wdX (fun x _=>c01 _);have b5:=bd b nbX (fun x _=>AAL x);have hp:Ap (BF b wdX) X * r.wide+Ap (BF b nbX) X * r.noball≤Ap (BF b I8) X:=by
  have h1:=oi (f:=BF b wdX) (g:=BF b nbX) (h:=fun x=>cond (bwX x==b) (wdX x * r.wide+nbX x * r.noball) 0) (a:=r.wide) (b:=r.noball) X (fun y _=>by
   unfold BF;cases bwX y==b
   ·show (0:Int) * r.wide+0 * r.noball=0;rw [Int.zero_mul,Int.zero_mul];rfl
   ·rfl)
  rw [h1];refine qz X (fun y hy=>?_);unfold BF;cases bwX y==b
  ·exact Int.le_refl _
  ·exact (hr y hy).part
 refine ⟨?_,b1,⟨Int.mul_nonneg m1.2 (by omega),m1.1⟩,b2,b3,b5,⟨Int.mul_nonneg b4.1 (by omega),Int.mul_nonneg b5.1 (by omega),hp⟩⟩;show 1≤b∧b≤r.side;rw [← hxb];exact (hr x hx).bw
theorem xO {r:Rul} {L:Rows} {k:Nat} (hc:Ak r L=0) (hk:k<opn L L.length):IQ r L (k:Int)=(Aw r L k L.length,0):=by
 unfold IQ;have e:(iLt (k:Int) 0||iLe (opn L L.length:Int) (k:Int))=false:=by
  simp only [Bool.or_eq_false_iff,iLt,iLe,decide_eq_false_iff_not];omega
 rw [hc,e,YF hc];rfl
theorem yo {r:Rul} {L:Rows} {k:Nat} (hc:Ak r L=0) (hk:k<opn L L.length):Vr r L (k:Int)=(A2 (Ko (mdA r.balls (Aw r L k L.length)) (Aw r L k L.length) (Aw r L k L.length).length),0):=by
 unfold Vr;rw [xO hc hk];rfl
def upB (c:Bool) (s:Inn):Rows:=cond c (DX s.bowled s.bowler (inc (atI s.bowled (ix s.bowler) 0))) s.bowled
theorem xV {r:Rul} {s:Inn} {c:Bool} (hb:inR s.bowler s.bowled.length=true) (hc:BJ r=0):(Av r s c).1.bowled=upB c s:=by
 unfold Av;rw [hb,hc];show (cond (iLt (cond c (inc s.inover) s.inover) r.balls) _ _:Inn×Bool).1.bowled=_;cases iLt (cond c (inc s.inover) s.inover) r.balls<;>rfl
def Kb (s:Inn) (x:Inn×Int):Prop:=x.1.bowled=s.bowled
theorem C3 {s:Inn} (b:Bool) (x y:Inn×Int) (hx:Kb s x) (hy:Kb s y):Kb s (cond b x y):=by cases b<;>assumption
theorem xY {r:Rul} {s:Inn} {e:Ev} (hk:(e.kind==4)=false):Kb s (Al r s e):=by
 have k0:∀ {n:Int},Kb s (s,n):=rfl;unfold Al;rw [hk,cond_false];refine C3 _ _ _ ?_ (C3 _ _ _ ?_ (C3 _ _ _ (C3 _ _ _ ?_ ?_) (C3 _ _ _ ?_ (C3 _ _ _ ?_ (C3 _ _ _ ?_ (C3 _ _ _ ?_ (C3 _ _ _ ?_ (C3 _ _ _ ?_ (C3 _ _ _ ?_ (C3 _ _ _ ?_ ?_))))))))))
 ·unfold I5;exact C3 (s:=s) _ _ _ k0 (C3 _ _ _ k0 (C3 _ _ _ k0 rfl))
 ·unfold Sm;cases Ng r s e.player==0<;>rfl
 ·unfold DK;exact C3 (s:=s) _ _ _ rfl k0
 ·unfold Fy;exact C3 (s:=s) _ _ _ rfl rfl
 ·unfold D2;exact C3 (s:=s) _ _ _ k0 (C3 _ _ _ k0 (C3 _ _ _ k0 (C3 _ _ _ k0 rfl)))
 ·unfold JB;exact C3 (s:=s) _ _ _ k0 rfl
 ·unfold LP;exact C3 (s:=s) _ _ _ k0 (C3 _ _ _ k0 (C3 _ _ _ k0 rfl))
 ·unfold Oj;exact C3 (s:=s) _ _ _ k0 (C3 _ _ _ k0 rfl)
 ·unfold JM;exact C3 (s:=s) _ _ _ k0 rfl
 ·unfold JG;exact C3 (s:=s) _ _ _ k0 (C3 _ _ _ k0 rfl)
 ·unfold F1;cases e.runs==5<;>cases e.side==s.side<;>rfl
 ·unfold Jq;exact C3 (s:=s) _ _ _ k0 (C3 _ _ _ rfl k0)
 ·unfold Ld;exact C3 (s:=s) _ _ _ k0 (C3 _ _ _ k0 (C3 _ _ _ k0 rfl))
theorem nO {r:Rul} {s:Inn} {e:Ev} (h:((Af r s e).2==0)=true):(Af r s e).1.bowled=upB (e.kind==4&&(AD r e.ball).counts) s:=by
 obtain ⟨hv,he,hn,hw,hp,hs⟩:=LN h;rw [hs];show (Al r s e).1.bowled=_;cases hk:e.kind==4 with
 | false=>exact xY hk
 | true =>
  have ok:=Fe.1 hv;have k4:=beq_iff_eq.1 hk;have hpb:Al r s e=KN r s e.ball:=by unfold Al;rw [k4];rfl
  rw [hpb] at hp ⊢;obtain ⟨hr,hb⟩:=WY hp;obtain ⟨q1,q2,_⟩:=HT hr;rw [hb];obtain ⟨k1,k2,k3,k4,k5,k6,k7,k8,k9,k10⟩:=XS s e.ball;have bi:=kt ok q2;have o:=xV (r:=r) (s:=Ag s e.ball) (c:=(AD r e.ball).counts) (by rw [k9,k10];exact bi) ok.code;have u:upB (AD r e.ball).counts (Ag s e.ball)=upB (AD r e.ball).counts s:=by unfold upB;rw [k9,k10]
  show (cond (Av r (Ag s e.ball) (AD r e.ball).counts).2 (H4 (Av r (Ag s e.ball) (AD r e.ball).counts).1) (Av r (Ag s e.ball) (AD r e.ball).counts).1).bowled=_;rw [Bool.true_and,← u,← o];cases (Av r (Ag s e.ball) (AD r e.ball).counts).2<;>rfl
theorem uf {r:Rul} {a b c:Int} (h:((B7 r a b c).2==0)=true):(B7 r a b c).1.bowled=List.replicate r.side.toNat [.int 0]:=by
 unfold B7 at h ⊢;cases h1:BJ r==0 with
 | false=>rw [h1] at h;exact absurd (show (BJ r==0)=true from h) (by rw [h1];decide)
 | true =>
  cases h2:(!btw a 1 2 || !btw b 0 1000000 || !btw c 0 1000000) with
  | true=>rw [h1,h2] at h;cases h
  | false=>rfl
theorem jH {xs:List Inn} {k:Nat} {t:Inn} (hk:k<xs.length) (h:t.bowled=(inn xs k).bowled):(xs.set k t).map Inn.bowled=xs.map Inn.bowled:=by
 rw [List.map_set,h];apply List.ext_getElem?;intro i;rw [List.getElem?_set]
 by_cases e:k=i
 ·subst e;rw [if_pos rfl,if_pos (by rw [List.length_map];exact hk),List.getElem?_map,zzn hk,Jg,zzn hk];rfl
 ·rw [if_neg e]
theorem vH (m:Mat) (sd:Int):(EF m sd).inns.map Inn.bowled=m.inns.map Inn.bowled:=by
 unfold EF;cases h:KV m.inns sd m.inns.length with
 | none=>rfl
 | some k=>exact jH (yU _ h) rfl
theorem uy (x:Mat):(CV x).inns=x.inns:=by
 unfold CV P8;exact P_c (P:=fun y:Mat=>y.inns=x.inns) _ _ _ (P_c (P:=fun y:Mat=>y.inns=x.inns) _ _ _ rfl (P_c (P:=fun y:Mat=>y.inns=x.inns) _ _ _ rfl rfl)) rfl
def bwT (m:Mat) (e:Ev):List Rows:=cond (e.kind==2) (m.inns.map Inn.bowled++[List.replicate m.rules.side.toNat [.int 0]]) (cond (e.kind==4) ((m.inns.map Inn.bowled).set (lnx m.inns) (upB (AD m.rules e.ball).counts (AJ m))) (m.inns.map Inn.bowled))
theorem y4 {m:Mat} {e:Ev} (h:((Bu m e).2==0)=true):(Bu m e).1.inns.map Inn.bowled=bwT m e:=by
 obtain ⟨hv,he,h5,hp,hs⟩:=M9 h;have ok:=W4 hv;have len4:=ok.len;rw [hs,uy];unfold bwT;unfold Ec at hp ⊢;cases k1:e.kind==1 with
 | true =>
  rw [beq_iff_eq.1 k1];rw [k1] at hp;cases s1:m.stage==1 with
  | false=>rw [s1] at hp;cases hp
  | true=>rfl
 | false =>
  rw [k1] at hp;cases k2:e.kind==2 with
  | true =>
   rw [k2] at hp;cases s2:m.stage==2 with
   | false=>rw [s2] at hp;cases hp
   | true =>
    rw [s2] at hp;simp only [Bool.not_true,cond_false,cond_true] at hp ⊢;unfold SK at hp ⊢;cases hb:(B7 m.rules (B8 m (m.inns.length:Int)) (D0 m (B8 m (m.inns.length:Int))) (cond (B8 m (m.inns.length:Int)==2) m.pen2 m.pen1)).2==0 with
    | false=>simp only [hb,Bool.not_false,cond_true] at hp;cases hp
    | true =>
     simp only [hb,Bool.not_true,cond_false] at hp ⊢;cases ht:(Af m.rules (B7 m.rules (B8 m (m.inns.length:Int)) (D0 m (B8 m (m.inns.length:Int))) (cond (B8 m (m.inns.length:Int)==2) m.pen2 m.pen1)).1 e).2==0 with
     | false=>simp only [ht,Bool.not_false,cond_true] at hp;exact absurd hp Bool.false_ne_true
     | true =>
      simp only [Bool.not_true,cond_false];have n1:=nO ht;rw [beq_iff_eq.1 k2] at n1;have n2:(Af m.rules (B7 m.rules (B8 m (m.inns.length:Int)) (D0 m (B8 m (m.inns.length:Int))) (cond (B8 m (m.inns.length:Int)==2) m.pen2 m.pen1)).1 e).1.bowled=_:=n1.trans (uf hb);rw [List.map_append,List.map_cons,List.map_nil,n2]
  | false =>
   rw [k2] at hp;cases k12:e.kind==12 with
   | true =>
    rw [k12] at hp;rw [beq_iff_eq.1 k12];cases s4:m.stage==4 with
    | false=>rw [s4] at hp;cases hp
    | true =>
     rw [s4] at hp;cases sf:e.side==m.first with
     | false=>rw [sf] at hp;cases hp
     | true=>rfl
   | false =>
    rw [k12] at hp;cases k16:e.kind==16 with
    | true =>
     rw [beq_iff_eq.1 k16];simp only [cond_true,cond_false];unfold VD;cases s3:m.stage==3 with
     | false=>rfl
     | true=>exact jH (Tf (ok.begun s3) (by omega)) rfl
    | false =>
     rw [k16] at hp;simp only [cond_false] at hp ⊢;cases s3:m.stage==3 with
     | false=>rw [s3] at hp;exact absurd (show ((1:Int)==0)=true from hp) (by decide)
     | true =>
      rw [s3] at hp;simp only [Bool.not_true,cond_false] at hp ⊢;have hl:=Tf (ok.begun s3) (by omega);unfold EE at hp ⊢;cases hq:(Af m.rules (AJ m) e).2==0 with
      | false=>simp only [hq,Bool.not_false,cond_true] at hp;exact absurd hp Bool.false_ne_true
      | true =>
       have n1:=nO hq;simp only [hq,Bool.not_true,cond_false];have a:∀ b:Bool,(cond b (EF { m with inns:=m.inns.set (lnx m.inns) (Af m.rules (AJ m) e).1 } e.side) { m with inns:=m.inns.set (lnx m.inns) (Af m.rules (AJ m) e).1 }).inns.map Inn.bowled=(m.inns.set (lnx m.inns) (Af m.rules (AJ m) e).1).map Inn.bowled:=fun b=>by
        cases b
        ·rfl
        ·exact vH _ _
       rw [a];cases k4:e.kind==4 with
       | true=>rw [List.map_set,n1,k4];rfl
       | false =>
        rw [k4] at n1;exact jH hl n1
def bwR (n:Nat) (X:Rows):Rows:=(List.range n).map fun (j:Nat)=>[PV.int (Ap (BF ((j:Int)+1) DC) X)]
theorem rQ (n:Nat) (X:Rows):(bwR n X).length=n:=by unfold bwR;rw [List.length_map,List.length_range]
theorem nX {n:Nat} {X:Rows} {j:Nat} (h:j<n):AB (bwR n X) j=[PV.int (Ap (BF ((j:Int)+1) DC) X)]:=by
 unfold AB bwR;rw [zzk,List.getElem?_map,List.getElem?_range h];rfl
theorem wu (n:Nat):List.replicate n [PV.int 0]=bwR n []:=by
 unfold bwR;apply List.ext_getElem?;intro i;rw [List.getElem?_replicate,List.getElem?_map]
 by_cases h:i<n
 ·rw [if_pos h,List.getElem?_range h];rfl
 ·rw [if_neg h,List.getElem?_eq_none (by simp;omega)];rfl
theorem dK (f:List PV→Int) (X:Rows) (x:List PV):Ap f (X++[x])=Ap f X+f x:=by
 rw [Xg];show _+(f x+0)=_;omega
theorem AAT {n:Nat} {X:Rows} {x:List PV} (h:DC x=0):bwR n (X++[x])=bwR n X:=by
 unfold bwR;refine List.map_congr_left fun j _=>?_
 have:BF ((j:Int)+1) DC x=0:=by unfold BF;rw [h];cases bwX x==((j:Int)+1)<;>rfl
 rw [dK,this,Int.add_zero]
theorem yv {n:Nat} {X:Rows} {x:List PV} {b:Int} (hb:1≤b∧b≤(n:Int)) (hn:n≤1000000) (hx:bwX x=b) (hc:DC x=1) (hs:0≤Ap (BF b DC) X∧Ap (BF b DC) X≤1000000):DX (bwR n X) b (inc (atI (bwR n X) (ix b) 0))=bwR n (X++[x]):=by
 obtain ⟨p,rfl⟩:∃ p:Nat,b=(p:Int)+1:=⟨(b - 1).toNat,by omega⟩;have e:ix ((p:Int)+1)=p:=by unfold ix;rw [A9 (by omega) (by omega)];omega
 have hp:p<n:=by omega
 have a:atI (bwR n X) p 0=Ap (BF ((p:Int)+1) DC) X:=by unfold atI AF;rw [nX hp];rfl
 have w:inc (Ap (BF ((p:Int)+1) DC) X)=Ap (BF ((p:Int)+1) DC) X+1:=A9 (by omega) (by omega);unfold DX;rw [e,a,nX hp,w];show (bwR n X).set p [PV.int (Ap (BF ((p:Int)+1) DC) X+1)]=_;apply List.ext_getElem?;intro i;rw [List.getElem?_set,rQ];unfold bwR;rw [List.getElem?_map,List.getElem?_map]
 by_cases h:i<n
 ·rw [List.getElem?_range h]
  by_cases hip:p=i
  ·subst hip;have s1:BF ((p:Int)+1) DC x=1:=by unfold BF;rw [hx,beq_self_eq_true];exact hc
   rw [if_pos rfl,if_pos h];show some [PV.int _]=some [PV.int _];rw [dK,s1]
  ·have s0:BF ((i:Int)+1) DC x=0:=by
    unfold BF;rw [hx,show ((p:Int)+1==(i:Int)+1)=false from beq_false_of_ne (by omega)];rfl
   rw [if_neg hip];show some [PV.int _]=some [PV.int _];rw [dK,s0,Int.add_zero]
 ·rw [if_neg (by omega),List.getElem?_eq_none (by simp;omega)];rfl
theorem oz {r:Rul} {L:Rows} {k:Nat}:∀ n,opn L n≤k→Aw r L k n=[]
 | 0,_=>rfl
 | n+1,h=>by
  have:=Kv L n;show cond ((evR L n).kind==4&&Nat.beq (opn L (n+1)) (k+1)) _ _=_;rw [II (by omega),Bool.and_false,cond_false];exact oz n (by omega)
theorem vC {X:Rows} (h:X.length≤4000) (b:Int):0≤Ap (BF b DC) X∧Ap (BF b DC) X≤1000000:=by
 have:=iK (f:=BF b DC) (c:=36) X (fun x hx=>gy (by omega) (c01 _));omega
theorem ud {r:Rul} {L:Rows} (hc:Ak r L=0):∀ i,i≤L.length→(stM L i 0 (AK r).1).inns.map Inn.bowled=(List.range (opn L i)).map fun k=>bwR r.side.toNat (Aw r L k i)
 | 0,_=>by
  obtain ⟨h1,h2,h3,h4,h5⟩:=Bc hc;show (AK r).1.inns.map Inn.bowled=_;rw [(ij h1).1];rfl
 | i+1,hi=>by
  have ih:=ud hc i (by omega);obtain ⟨h1,h2,h3,h4,h5⟩:=Bc hc;obtain ⟨li,so,_⟩:=Er h1 h4 i (by omega);have a0:=MV L.length 0 _ h4 i (by omega);have s0:=UQ (L:=L) i 0 (AK r).1;rw [Nat.zero_add] at a0 s0;have q:=(Tu a0).1;rw [q] at s0 a0;have bw:=y4 a0;rw [← s0] at bw;rw [bw];unfold bwT;rw [ih,so.rules];have rs:=(Dm h2).side;have bal:∀ k,Aw r L k (i+1)=cond ((evR L i).kind==4&&Nat.beq (opn L (i+1)) (k+1)) (Aw r L k i++[Bh (i:Int) (stM L i 0 (AK r).1) (stM L (i+1) 0 (AK r).1) (evR L i).ball]) (Aw r L k i):=fun _=>rfl
  cases k2:(evR L i).kind==2 with
  | true =>
   have o:opn L (i+1)=opn L i+1:=by show opn L i+cond ((evR L i).kind==2) 1 0=_;rw [k2];rfl
   have k4:((evR L i).kind==4)=false:=by rw [beq_iff_eq.1 k2];rfl
   rw [cond_true,o,List.range_succ,List.map_append,List.map_cons,List.map_nil,bal,k4,Bool.false_and,cond_false,oz i (Nat.le_refl _),← wu];congr 1;refine List.map_congr_left fun k _=>?_
   rw [bal,k4,Bool.false_and,cond_false]
  | false =>
   have o:opn L (i+1)=opn L i:=YN k2;rw [cond_false,o];cases hk:(evR L i).kind==4 with
   | false =>
    rw [cond_false];refine List.map_congr_left fun k _=>?_
    rw [bal,hk,Bool.false_and,cond_false]
   | true =>
    have bf:=N1 hc (show i<L.length by omega) hk;have one:=bf.one;obtain ⟨q1,q2,q3,q4,q5,q6⟩:=HT bf.ref;rw [beq_eq_false_iff_ne] at q2;have bo:=bf.ok.bow;rw [cond_true,bf.lnx];have lb:(AJ (stM L i 0 (AK r).1)).bowled=bwR r.side.toNat (Aw r L (opn L i - 1) i):=by
     have e:=congrArg (fun l=>l[opn L i - 1]?) ih;simp only [List.getElem?_map,List.getElem?_range (show opn L i - 1<opn L i by omega)] at e;unfold AJ;rw [bf.lnx,Jg];have il:opn L i - 1<(stM L i 0 (AK r).1).inns.length:=by rw [li.len];omega
     rw [zzn il] at e ⊢;exact Option.some.inj e
    have up:upB (AD r (evR L i).ball).counts (AJ (stM L i 0 (AK r).1))=bwR r.side.toNat (Aw r L (opn L i - 1) i++[Bh (i:Int) (stM L i 0 (AK r).1) (stM L (i+1) 0 (AK r).1) (evR L i).ball]):=by
     have cn:DC (Bh (i:Int) (stM L i 0 (AK r).1) (stM L (i+1) 0 (AK r).1) (evR L i).ball)=cond (AD r (evR L i).ball).counts 1 0:=by
      show cond (AD (stM L i 0 (AK r).1).rules (evR L i).ball).counts 1 0=_;rw [bf.rules]
     have bx:bwX (Bh (i:Int) (stM L i 0 (AK r).1) (stM L (i+1) 0 (AK r).1) (evR L i).ball)=(AJ (stM L i 0 (AK r).1)).bowler:=rfl;unfold upB;rw [lb];have ln:=(ep hc (opn L i - 1) i (by omega)).1;cases hcn:(AD r (evR L i).ball).counts with
     | false=>rw [hcn] at cn;exact (AAT cn).symm
     | true=>rw [hcn] at cn;exact yv (by omega) (by omega) bx cn (vC (by omega) _)
    apply List.ext_getElem?;intro j;rw [List.getElem?_set,List.getElem?_map,List.getElem?_map,List.length_map,List.length_range]
    by_cases hj:j<opn L i
    ·rw [List.getElem?_range hj]
     by_cases e:opn L i - 1=j
     ·rw [if_pos e,if_pos (by omega)];have bq:Nat.beq (opn L i) (j+1)=true:=by rw [show opn L i=j+1 by omega];exact Lc _
      show some _=some (bwR r.side.toNat (Aw r L j (i+1)));rw [up,bal,hk,o,bq,Bool.true_and,cond_true,e]
     ·rw [if_neg e];show some _=some (bwR r.side.toNat (Aw r L j (i+1)));rw [bal,hk,o,II (by omega),Bool.and_false,cond_false]
    ·rw [if_neg (by omega),List.getElem?_eq_none (by simp;omega)];rfl
theorem lN {N:Nat} {L:Rows}  : Jm N [.rows L]=some [.rows (cut L 50)]:=by
 show Jc (std (HG N) N) (xOf _)=_;simp only [Jc,lq9,std,xOf,PXb,PXc,PXn,PXm,Nat.reduceAdd,Int.reduceBEq,ABr (show (0:Int)≤50 by omega)];rfl
theorem uN {r:Rul} {L:Rows} (h4:L.length≤4000) (h:((BD r L).2.1 == -1)=true):Ak r L=0:=by
 cases hc:BJ r==0 with
 | false=>rw [ta L hc] at h;cases h
 | true =>
  have hn:=(dq r).trans hc;have hrep:BD r L=Ew L L.length 0 (AK r).1:=by unfold BD;rw [hn];rfl
  obtain ⟨k,h1,h2,h3,h5⟩:=P9 L L.length 0 (AK r).1
  rcases h5 with ⟨_,h6⟩ | ⟨_,_,h7⟩
  ·unfold Ak;have l:iLt 4000 (L.length:Int)=false:=by simp only [iLt,decide_eq_false_iff_not];omega
   rw [hc,l,hrep,h6];rfl
  ·rw [hrep,h7,beq_iff_eq] at h;have h:((0+k:Nat):Int) = -1:=h;omega
theorem ABj {r:Rul} {X:Rows} (hX:X.length≤4000) (hb:∀ x,x∈X→0≤I8 x∧I8 x≤36):∀ s,s∈Ko (mdA r.balls X) X X.length→s.b=Ap (BF s.p DC) X:=by
 have e:Ko (mdA r.balls X) X X.length=(boN X X.length).map (lnY r.balls X):=by
  rw [bD];refine List.map_congr_left (fun b _=>?_);rw [(dh hX hb b X.length (Nat.le_refl _)).1,List.take_length];rfl
 rw [e];intro s hs;obtain ⟨b,hbm,rfl⟩:=List.mem_map.1 hs;rfl
theorem xv {N : Nat} (hN : 2097152 < N) {o : List Int} {F : Int → Ln} (hl : o.length ≤ 1000) {G : (List AU → Option (List PV)) → List PV → Option (List PV)}
    (h0:∀ a self,G self [.int a,.int (o.length:Int)]=some [.int a,.int (o.length:Int)])
    (h1:∀ (j:Nat) (a:Int) (l:Ln) p self,j<o.length→AB (AP o F) j=lnR p l→G self [.int a,.int (j:Int)]=self [.int (cond l.out (IntKind.i64.wrap (a+1)) a),.int ((j+1:Nat):Int)]) :
    DB G N [.int 0,.int 0]=some [.int (B4 (fun p=>cond (F p).out 1 0) o),.int (o.length:Int)]:=by
  have b01:∀ p,p∈o→(0:Int)≤cond (F p).out 1 0∧(cond (F p).out 1 0:Int)≤1:=fun p _=>by cases (F p).out<;>decide
  exact CA (F:=G) (len:=o.length) (fun j=>[.int (B4 (fun p=>cond (F p).out 1 0) (o.take j)),.int (j:Int)]) _ (fun self=>by
    show G self [.int (B4 (fun p=>cond (F p).out 1 0) (o.take o.length)),.int (o.length:Int)]=_;rw [List.take_length];exact h0 _ self) (fun j self hj=>by
    have cr:=YE (F:=F) hj;have tk:=ZM (fun p=>cond (F p).out 1 0) hj;have bb:=mj b01 j (by omega);have:=h1 j (B4 (fun p=>cond (F p).out 1 0) (o.take j)) _ _ self hj cr;show G self [.int (B4 (fun p=>cond (F p).out 1 0) (o.take j)),.int (j:Int)]=self [.int (B4 (fun p=>cond (F p).out 1 0) (o.take (j+1))),.int ((j+1:Nat):Int)];rw [this,tk];have e:cond (F (o.getD j 0)).out (IntKind.i64.wrap (B4 (fun p=>cond (F p).out 1 0) (o.take j)+1)) (B4 (fun p=>cond (F p).out 1 0) (o.take j))=B4 (fun p=>cond (F p).out 1 0) (o.take j)+cond (F (o.getD j 0)).out 1 0:=by
      cases (F (o.getD j 0)).out with
      | false=>rw [cond_false,cond_false,Int.add_zero]
      | true=>rw [cond_true,cond_true,A9 (by omega) (by omega)]
    rw [e]) N (by omega)
set_option maxHeartbeats 8000000 in
theorem gL {N:Nat} {r8:Bool} {r0:ByteArray} {r13:Rows} {L:Rows} (ha:Gg N []=some [.bool true]) (hN:2097152<N) (hs:r0.size≤1048576) (h13:r13.length≤1048576):HR N [.str r0,.int r1,.int r2,.int r3,.int r4,.int r5,.int r6,.int r7,.bool r8,.int r9,.int r10,.int r11,.int r12,.rows r13,.rows L]=some [.bool true]:=by
 show G2 (std (BU N) N) (xOf _)=_;have l50:(cut L 50).length≤50:=AAZ L 50;have l6:(cut L 50).length≤1000000:=Nat.le_trans l50 (show 50≤1000000 by omega);have l:(cut L 50).length≤1048576:=Nat.le_trans l50 (show 50≤1048576 by omega);simp only [G2,PA,RA,RZ,IY,GS,O9,PJ,lq9,std,xOf,PXb,PXc,PXn,PXm,Nat.reduceAdd,Int.reduceBEq,ha,lN,UW hN hs h13 l,f7,PXc];generalize cut L 50=X at *
 cases hq:(BD (⟨r0,r1,r2,r3,r4,r5,r6,r7,r8,r9,r10,r11,r12,r13⟩:Rul) X).2.1 == -1 with
 | false=>rfl
 | true =>
  have c0:=uN (show X.length≤4000 by omega) hq;obtain ⟨il,rk⟩:=mD c0;obtain ⟨t1,t2,t3,t4,t5⟩:=zF c0;have ro:=vK (r:=(⟨r0,r1,r2,r3,r4,r5,r6,r7,r8,r9,r10,r11,r12,r13⟩:Rul)) X hs h13;have bw:(BD (⟨r0,r1,r2,r3,r4,r5,r6,r7,r8,r9,r10,r11,r12,r13⟩:Rul) X).1.inns.map Inn.bowled=(List.range (opn X X.length)).map fun k=>bwR r1.toNat (Aw (⟨r0,r1,r2,r3,r4,r5,r6,r7,r8,r9,r10,r11,r12,r13⟩:Rul) X k X.length):=by
   obtain ⟨_,_,_,_,h5⟩:=Bc c0;rw [h5];exact ud c0 X.length (Nat.le_refl _)
  generalize (BD (⟨r0,r1,r2,r3,r4,r5,r6,r7,r8,r9,r10,r11,r12,r13⟩:Rul) X).1=m at *
  have hl:=ro.len;have rs:2≤r1∧r1≤11:=rk.side;simp only [PXb,PXc,PXn,PXm,Nat.reduceAdd,Int.reduceBEq,Int.reduceBEq,PXi,Bool.not_true,cond_false];refine AZ (CA (len:=m.inns.length) (fun i=>[.int (i:Int)]) [.int 1] ?_ ?_ N (by omega)) rfl
  ·intro self;simp only [PXb,PXc,PXn,AG,A3]
  ·intro k self hi;have hk:k<opn X X.length:=by rw [← t2];exact hi
   have sk:Be r4 (inn m.inns k)=BI (⟨r0,r1,r2,r3,r4,r5,r6,r7,r8,r9,r10,r11,r12,r13⟩:Rul) X (sdT X) (opn X X.length) k X.length:=by
    have e:=congrArg (fun l=>sco l k) t1;have e:sco (RK (⟨r0,r1,r2,r3,r4,r5,r6,r7,r8,r9,r10,r11,r12,r13⟩:Rul) X (sdT X)) k=sco (m.inns.map (Be r4)) k:=e;rw [AAa hk,Nh _ _ hi] at e;exact e.symm
   have bk:(inn m.inns k).bowled=bwR r1.toNat (Aw (⟨r0,r1,r2,r3,r4,r5,r6,r7,r8,r9,r10,r11,r12,r13⟩:Rul) X k X.length):=by
    have e:=congrArg (fun l=>l[k]?) bw;simp only [List.getElem?_map,List.getElem?_range hk,zzn hi] at e;rw [Jg,zzn hi];exact Option.some.inj e
   obtain ⟨u1,u2,u3,u4,u5,u6⟩:=yQ c0 k X.length (Nat.le_refl _);obtain ⟨bl,bf⟩:=ep c0 k X.length (Nat.le_refl _);have hX4:(Aw (⟨r0,r1,r2,r3,r4,r5,r6,r7,r8,r9,r10,r11,r12,r13⟩:Rul) X k X.length).length≤4000:=by omega
   have fg:FigF (⟨r0,r1,r2,r3,r4,r5,r6,r7,r8,r9,r10,r11,r12,r13⟩:Rul) (Aw (⟨r0,r1,r2,r3,r4,r5,r6,r7,r8,r9,r10,r11,r12,r13⟩:Rul) X k X.length) (Ko (mdA r4 (Aw (⟨r0,r1,r2,r3,r4,r5,r6,r7,r8,r9,r10,r11,r12,r13⟩:Rul) X k X.length)) (Aw (⟨r0,r1,r2,r3,r4,r5,r6,r7,r8,r9,r10,r11,r12,r13⟩:Rul) X k X.length) (Aw (⟨r0,r1,r2,r3,r4,r5,r6,r7,r8,r9,r10,r11,r12,r13⟩:Rul) X k X.length).length):=ABc rk hX4 (fun x hx=>ql rk (bf x hx)) u5 u6;have fb:=ABj (r:=(⟨r0,r1,r2,r3,r4,r5,r6,r7,r8,r9,r10,r11,r12,r13⟩:Rul)) hX4 (fun x hx=>ql rk (bf x hx));have oln:(((QB (⟨r0,r1,r2,r3,r4,r5,r6,r7,r8,r9,r10,r11,r12,r13⟩:Rul) X k).length:Nat):Int)=r1:=y7 c0 hk;have om:∀ p,p∈QB (⟨r0,r1,r2,r3,r4,r5,r6,r7,r8,r9,r10,r11,r12,r13⟩:Rul) X k↔1≤p∧p≤r1:=fun p=>Wo (p:=p) c0 hk (show 0≤r1 by omega)
   have pf:∀ p,p∈QB (⟨r0,r1,r2,r3,r4,r5,r6,r7,r8,r9,r10,r11,r12,r13⟩:Rul) X k→LnF p (Aw (⟨r0,r1,r2,r3,r4,r5,r6,r7,r8,r9,r10,r11,r12,r13⟩:Rul) X k X.length) (Aw (⟨r0,r1,r2,r3,r4,r5,r6,r7,r8,r9,r10,r11,r12,r13⟩:Rul) X k X.length).length (plL (⟨r0,r1,r2,r3,r4,r5,r6,r7,r8,r9,r10,r11,r12,r13⟩:Rul) X k p):=fun p hp=>AAM c0 rk ((om p).1 hp).1
   have rsum:=xt c0 rk hk;have osum:=zl c0 hk;obtain ⟨s1,s2⟩:=qx rk X k X.length;have pb:=ABX rk X k il.len;have sm:=(rI rk X (sdT X) (opn X X.length) k il.len).pens;have e1:(inn m.inns k).runs=(prA (⟨r0,r1,r2,r3,r4,r5,r6,r7,r8,r9,r10,r11,r12,r13⟩:Rul) X k X.length).batter+(prA (⟨r0,r1,r2,r3,r4,r5,r6,r7,r8,r9,r10,r11,r12,r13⟩:Rul) X k X.length).wides+(prA (⟨r0,r1,r2,r3,r4,r5,r6,r7,r8,r9,r10,r11,r12,r13⟩:Rul) X k X.length).noballs+(prA (⟨r0,r1,r2,r3,r4,r5,r6,r7,r8,r9,r10,r11,r12,r13⟩:Rul) X k X.length).byes+(prA (⟨r0,r1,r2,r3,r4,r5,r6,r7,r8,r9,r10,r11,r12,r13⟩:Rul) X k X.length).legbyes+(BI (⟨r0,r1,r2,r3,r4,r5,r6,r7,r8,r9,r10,r11,r12,r13⟩:Rul) X (sdT X) (opn X X.length) k X.length).pens:=by
    rw [← s1];exact congrArg Sco.runs sk
   have e2:(inn m.inns k).wides=(prA (⟨r0,r1,r2,r3,r4,r5,r6,r7,r8,r9,r10,r11,r12,r13⟩:Rul) X k X.length).wides:=congrArg Sco.wides sk;have e3:(inn m.inns k).noballs=(prA (⟨r0,r1,r2,r3,r4,r5,r6,r7,r8,r9,r10,r11,r12,r13⟩:Rul) X k X.length).noballs:=congrArg Sco.noballs sk;have e4:(inn m.inns k).byes=(prA (⟨r0,r1,r2,r3,r4,r5,r6,r7,r8,r9,r10,r11,r12,r13⟩:Rul) X k X.length).byes:=congrArg Sco.byes sk;have e5:(inn m.inns k).legbyes=(prA (⟨r0,r1,r2,r3,r4,r5,r6,r7,r8,r9,r10,r11,r12,r13⟩:Rul) X k X.length).legbyes:=congrArg Sco.legbyes sk;have e6:(inn m.inns k).pens=(BI (⟨r0,r1,r2,r3,r4,r5,r6,r7,r8,r9,r10,r11,r12,r13⟩:Rul) X (sdT X) (opn X X.length) k X.length).pens:=congrArg Sco.pens sk;have e7:(inn m.inns k).wickets=smi X Bp k X.length:=congrArg Sco.wickets sk;have e8:IntKind.i64.wrap (IntKind.i64.wrap ((inn m.inns k).complete * r4)+(inn m.inns k).inover)=smi X (O6 (⟨r0,r1,r2,r3,r4,r5,r6,r7,r8,r9,r10,r11,r12,r13⟩:Rul)) k X.length:=congrArg Sco.balls sk;have pbat:(prA (⟨r0,r1,r2,r3,r4,r5,r6,r7,r8,r9,r10,r11,r12,r13⟩:Rul) X k X.length).batter=smi X (fun e=>(A1 (⟨r0,r1,r2,r3,r4,r5,r6,r7,r8,r9,r10,r11,r12,r13⟩:Rul) e).batter) k X.length:=rfl;have pbow:(prA (⟨r0,r1,r2,r3,r4,r5,r6,r7,r8,r9,r10,r11,r12,r13⟩:Rul) X k X.length).bowler=smi X (fun e=>(A1 (⟨r0,r1,r2,r3,r4,r5,r6,r7,r8,r9,r10,r11,r12,r13⟩:Rul) e).bowler) k X.length:=rfl;simp only [PXb,PXc,PXn,AG,Int.toNat_natCast,BN (show k≤1099511627776 by omega),Ay hi,AN hi,IY,Wf hN hs h13 l6,zi c0 hk,GS,SH hN hs h13 l6,yo c0 hk,Int.reduceBEq,Bool.not_true,Bool.or_self,cond_false];generalize (BI (⟨r0,r1,r2,r3,r4,r5,r6,r7,r8,r9,r10,r11,r12,r13⟩:Rul) X (sdT X) (opn X X.length) k X.length).pens=pn at *
   generalize prA (⟨r0,r1,r2,r3,r4,r5,r6,r7,r8,r9,r10,r11,r12,r13⟩:Rul) X k X.length=A at *
   generalize inn m.inns k=x at *
   generalize QB (⟨r0,r1,r2,r3,r4,r5,r6,r7,r8,r9,r10,r11,r12,r13⟩:Rul) X k=o at *
   generalize plL (⟨r0,r1,r2,r3,r4,r5,r6,r7,r8,r9,r10,r11,r12,r13⟩:Rul) X k=F at *
   generalize Aw (⟨r0,r1,r2,r3,r4,r5,r6,r7,r8,r9,r10,r11,r12,r13⟩:Rul) X k X.length=Y at *
   generalize Ko (mdA r4 Y) Y Y.length=xs at *
   obtain ⟨g1,g2,g3,g4,g5,g6⟩:=fg;refine CW (xv hN (o:=o) (F:=F) (by omega) ?_ ?_) ?_
   ·intro a self;simp only [PXb,PXc,PXn,AG,Bt,A3]
   ·intro j a ln p self hj cr;have pa:∀ c,AF (AP o F) j c=AA (lnR p ln) c:=fun c=>by unfold AF;rw [cr]
    have c5:pvB (AA (lnR p ln) 5)=ln.out:=rfl;simp only [PXb,PXc,PXn,AG,Bt,Int.toNat_natCast,Ay hj,AN hj,pa,c5,BN (show j≤1099511627776 by omega)];cases ln.out<;>rfl
   ·simp only [PXb,PXc,PXn,AG];refine AZ (CA (len:=xs.length) (fun j=>[.int (Db BL.b (xs.take j)),.int (j:Int)]) [.int 1,.int (Db BL.b xs),.int (xs.length:Int)] ?_ ?_ N (by omega)) ?_
    ·intro self;simp only [PXb,PXc,PXn,AG,PXv,A3,List.take_length]
    ·intro j self hj;have hm:bln xs j∈xs:=by rw [TQ hj];exact List.getElem_mem _
     have ln:=g2 _ hm;have fj:=fb _ hm;have p1:=ln.p;have p2:=ln.b;have b1:=iU (g:=BL.b) (fun s hs=>(g2 s hs).b) j (by omega);change 1≤(bln xs j).p∧(bln xs j).p≤r1 at p1;obtain ⟨q,hq2⟩:∃ q:Nat,(bln xs j).p=(q:Int)+1:=⟨((bln xs j).p - 1).toNat,by omega⟩;rw [hq2] at fj;have wq:IntKind.i64.wrap ((bln xs j).p - 1)=(q:Int):=by rw [hq2,A9 (by omega) (by omega)];omega
     have hql:q<r1.toNat:=by omega
     have iq:iIn (q:Int) ((bwR r1.toNat Y).length:Int)=true:=by rw [rQ];exact AN hql
     have pq:pvI (AF (bwR r1.toNat Y) q 0)=(bln xs j).b:=by unfold AF;rw [nX hql,fj];rfl
     have w:IntKind.i64.wrap (Db BL.b (xs.take j)+(bln xs j).b)=Db BL.b (xs.take j)+(bln xs j).b:=A9 (by omega) (by omega);simp only [PXb,PXc,PXn,AG,PXv,Int.toNat_natCast,Ay hj,AN hj,BN (show j≤1099511627776 by omega),wq,bk,iq,pq,beq_self_eq_true,Bool.not_true,cond_false,w,Sl BL.b hj]
    ·have tc:=nC (o:=o) (F:=F) (fun p hp=>by have:=(pf p hp).rb;omega) (by omega) o.length (Nat.le_refl _);rw [List.take_length,rsum,← pbat] at tc;have tt:G0 N [.rows (AP o F)]=some [.int A.batter]:=by
      rw [fT hN (by rw [Bt];omega),Bt,tc]
     have tb:HM N [.rows (A2 xs)]=some [.int A.bowler]:=by
      rw [em hN g1 (fun s hs=>(g2 s hs).rr),g4,u2,pbow]
     have q1:((1:Int)==0)=false:=rfl;obtain ⟨b1,b2,b3,b4,b5⟩:=pb;have m1:IntKind.i64.wrap (A.wides+A.noballs)=A.wides+A.noballs:=BZ (by omega) (by omega);have m2:IntKind.i64.wrap (A.wides+A.noballs+A.byes)=A.wides+A.noballs+A.byes:=BZ (by omega) (by omega);have m3:IntKind.i64.wrap (A.wides+A.noballs+A.byes+A.legbyes)=A.wides+A.noballs+A.byes+A.legbyes:=BZ (by omega) (by omega);have m4:IntKind.i64.wrap (A.wides+A.noballs+A.byes+A.legbyes+pn)=A.wides+A.noballs+A.byes+A.legbyes+pn:=BZ (by omega) (by omega);have m5:IntKind.i64.wrap (A.batter+(A.wides+A.noballs+A.byes+A.legbyes+pn))=x.runs:=by rw [BZ (by omega) (by omega),e1];omega
     have m6:IntKind.i64.wrap (A.bowler+A.byes)=A.bowler+A.byes:=BZ (by omega) (by omega);have m7:IntKind.i64.wrap (A.bowler+A.byes+A.legbyes)=A.bowler+A.byes+A.legbyes:=BZ (by omega) (by omega);have m8:IntKind.i64.wrap (A.bowler+A.byes+A.legbyes+pn)=x.runs:=by rw [BZ (by omega) (by omega),e1,s2]
     have m9:(x.wickets==B4 (fun p=>cond (F p).out 1 0) o)=true:=by rw [e7,osum];exact beq_self_eq_true _
     have ma:(Db BL.b xs==IntKind.i64.wrap (IntKind.i64.wrap (x.complete * r4)+x.inover))=true:=by rw [e8,g3,u1];exact beq_self_eq_true _
     simp only [PXb,PXc,PXn,AG,q1,cond_false];refine CW tt ?_;simp only [PXb,PXc,PXn,AG,e2,e3,e4,e5,e6,m1,m2,m3,m4,m5,beq_self_eq_true,cond_true];refine CW tb ?_;simp only [PXb,PXc,PXn,AG,m6,m7,m8,m9,ma,beq_self_eq_true,Bool.not_true,Bool.or_self,cond_false]
end Go.Px
end
