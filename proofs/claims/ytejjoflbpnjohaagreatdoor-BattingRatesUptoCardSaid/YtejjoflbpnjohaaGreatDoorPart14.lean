/- Part 14. -/
import Derived.Test.YtejjoflbpnjohaaGreatDoorPart13
import Derived.KernelRfl
set_option linter.unusedVariables false
set_option linter.unusedSimpArgs false
section
namespace Go.Px
set_option maxRecDepth 100000
theorem JQ {r:Rul} {L:Rows} (h:DV r L=0):((AZ r).2==0)=true∧BF r=0∧L.length≤4000∧acc L L.length 0 (AZ r).1∧H3 r L=(stM L L.length 0 (AZ r).1,-1,0):=by
 unfold DV at h;cases hc:BF r==0 with
 | false=>rw [hc] at h;rw [show BF r=0 from h] at hc;cases hc
 | true =>
  cases hl:iLt 4000 (L.length:Int) with
  | true=>rw [hc,hl] at h;cases h
  | false =>
   cases hr:(H3 r L).2.2==0 with
   | false=>rw [hc,hl,hr] at h;cases h
   | true =>
    have hn:=(pW r).trans hc;have hrep:H3 r L=HW L L.length 0 (AZ r).1:=by unfold H3;rw [hn];rfl
    obtain ⟨k,h1,h2,h3,h4⟩:=Y5 L L.length 0 (AZ r).1;have l4:L.length≤4000:=by simp only [iLt,decide_eq_false_iff_not] at hl;omega
    rcases h4 with ⟨h5,h6⟩ | ⟨h5,h6,h7⟩
    ·subst h5;exact ⟨hn,beq_iff_eq.1 hc,l4,h2,hrep.trans h6⟩
    ·rw [hrep,h7] at hr;rw [h6] at hr;cases hr
def Mc (k s p o:Int) (y:Bool) (t f n b h v:Int):List PV:=[.int k,.int s,.int p,.int o,.bool y,.int 0,.int 0,.int t,.int f,.int n,.int 0,.int b,.bool false,.int h,.int v,.int 0,.int 0,.bool false,.int 0]
def XX:Rows:=[Mc 1 1 0 0 true 0 0 0 0 0 0,Mc 2 0 1 2 false 0 0 0 0 0 0,Mc 8 0 2 0 false 0 0 0 0 0 0,Mc 3 0 1 0 false 0 0 0 0 0 0,Mc 4 0 0 0 false 1 1 1 0 0 0,Mc 4 0 0 0 false 1 0 0 0 1 1,Mc 2 0 2 1 false 0 0 0 0 0 0,Mc 8 0 1 0 false 0 0 0 0 0 0,Mc 3 0 2 0 false 0 0 0 0 0 0,Mc 4 0 0 0 false 2 0 0 0 0 0,Mc 4 0 0 0 false 1 1 0 4 0 0]
def Xd:Rul:=⟨⟨#[84,69,83,84]⟩,2,1,1,4,0,1,1,false,0,0,0,11,[]⟩
theorem tT:ON 4194304 []=some [.rows XX]:=by kernel_rfl
theorem rY:KZ 4194304 []=some Xd.ls:=by kernel_rfl
theorem Ec {x:Option (List PV)} {v:List PV} {f:List PV→Option (List PV)} {r:Option (List PV)} (h:x=some v) (hk:f v=r):x.bind f=r:=by rw [h];exact hk
structure Up (x y:Sco):Prop where
 side:y.side=x.side
 runs:x.runs≤y.runs
 wk:x.wickets≤y.wickets
 balls:x.balls≤y.balls
theorem Up.refl (x:Sco):Up x x:=⟨rfl,Int.le_refl _,Int.le_refl _,Int.le_refl _⟩
def D3 (L:Rows) (k:Nat):Rows:=List.drop (CA L k) (List.take (CA L (k+1)) L)
theorem gf {L:Rows} (hL:L.length≤1048576) {k:Nat} (hk:k<opn L L.length):(D3 L k).length=CA L (k+1) - CA L k:=rD (seg hL hk).le
theorem aE {L:Rows}:∀ k i m out,UY L (k+1) i m out=cond ((evR L (i+k)).kind==4) (UY L k i m out++[Hl ((i+k:Nat):Int) (stM L k i m) (Ax ((i+k:Nat):Int) (stM L k i m) (evR L (i+k))).1 (evR L (i+k)).ball]) (UY L k i m out)
 | 0,i,m,out=>rfl
 | k+1,i,m,out=>by
  have ih:=aE (L:=L) k (i+1) (Ax i m (evR L i)).1 (cond ((evR L i).kind==4) (out++[Hl i m (Ax i m (evR L i)).1 (evR L i).ball]) out);rw [show i+1+k=i+(k+1) by omega] at ih;exact ih
def tE (x:List PV):List PV:=[.int (pvI (AA x 0)),.int (pvI (AA x 1)),.int (pvI (AA x 2)),.int (pvI (AA x 3)),.int (pvI (AA x 4)),.int (pvI (AA x 5)),.int (pvI (AA x 6)),.bool (pvB (AA x 7)),.int (pvI (AA x 8)),.int (pvI (AA x 9)),.int (pvI (AA x 10)),.int (pvI (AA x 11)),.int (pvI (AA x 12)),.bool (pvB (AA x 13)),.int (pvI (AA x 14)),.int (pvI (AA x 15)),.int (pvI (AA x 16)),.int (pvI (AA x 17)),.bool (pvB (AA x 18)),.int (pvI (AA x 19)),.int (pvI (AA x 20)),.int (pvI (AA x 21)),.int (pvI (AA x 22)),.int (pvI (AA x 23)),.int (pvI (AA x 24)),.int (pvI (AA x 25)),.bool (pvB (AA x 26)),.bool (pvB (AA x 27)),.bool (pvB (AA x 28)),.bool (pvB (AA x 29)),.int (pvI (AA x 30)),.int (pvI (AA x 31))]
def fil (k:Int):Rows→Rows
 | []=>[]
 | x::D=>cond (pvI (AA x 1)==k) (tE x::fil k D) (fil k D)
theorem gj {d:Del} (h:(D7 d==0)=true):0≤d.sector∧d.sector≤8:=by
 unfold D7 at h;cases h1:(iLt d.type 1||iLt 3 d.type||iLt 3 d.source||iLt 10 d.how || !btw d.sector 0 8) with
 | true=>rw [h1] at h;cases h
 | false =>
  simp only [btw,iLe,Bool.or_eq_false_iff,Bool.not_eq_false',zzj,decide_eq_true_eq] at h1;exact h1.2
structure BallF (r:Rul) (L:Rows) (a:Nat):Prop where
 one:1≤opn L a
 lnx:lnx (stM L a 0 (AZ r).1).inns=opn L a - 1
 inn:IntKind.i64.wrap (((stM L a 0 (AZ r).1).inns.length:Int) - 1)=((opn L a - 1:Nat):Int)
 ok:InnOk r (AU (stM L a 0 (AZ r).1))
 rules:(stM L a 0 (AZ r).1).rules=r
 ref:(Gq r (AU (stM L a 0 (AZ r).1)) (evR L a).ball==0)=true
 over:(AU (stM L a 0 (AZ r).1)).complete≤1000
theorem oF {r:Rul} {L:Rows} (hc:DV r L=0) {a:Nat} (ha:a<L.length) (hk:((evR L a).kind==4)=true):BallF r L a:=by
 obtain ⟨h1,h2,h3,h4,h5⟩:=JQ hc;obtain ⟨li,so,_⟩:=Nt h1 h4 a (by omega);obtain ⟨_,_,hi⟩:=Nt h1 h4 L.length (Nat.le_refl _);have e:=beq_iff_eq.1 hk;have one:=(hi a ha).2.play (by rw [e];rfl) (by rw [e];rfl) (by rw [e];rfl) (by rw [e];rfl);have a0:=Tw L.length 0 _ h4 a ha;rw [Nat.zero_add] at a0;have q:=(Wi a0).1;rw [q] at a0;obtain ⟨g1,g2,g3,g4⟩:=US a0 hk;have sl:=so.len;have ll:=li.len;have lx:Px.lnx (stM L a 0 (AZ r).1).inns=opn L a - 1:=by
  unfold Px.lnx;rw [ll,B9 (by omega) (by omega)];omega
 have rl:=so.rules;obtain ⟨hv,he,hn,hw,hp,hs⟩:=QL g3;rw [rl] at hv hp;have ok:=JJ.1 hv;have hpb:Ba r (AU (stM L a 0 (AZ r).1)) (evR L a)=K0 r (AU (stM L a 0 (AZ r).1)) (evR L a).ball:=by unfold Ba;rw [e];rfl
 rw [hpb] at hp;have cl:=oH h1 h4 a (by omega);have at1:=cl.at' (opn L a - 1) (by omega);have kx:sco (FD (stM L a 0 (AZ r).1)).xs (opn L a - 1)=BX r.balls (AU (stM L a 0 (AZ r).1)):=by
  unfold FD AU;rw [rl,lx];exact QJ _ _ (by omega)
 rw [kx] at at1;have bl:CY r.balls (AU (stM L a 0 (AZ r).1)).complete (AU (stM L a 0 (AZ r).1)).inover=smi L (lT r) (opn L a - 1) a:=congrArg Sco.balls at1;have be:=(f9 ok).1;have cb:=qF (L:=L) (f:=lT r) (c:=1) (fun e=>by unfold lT;cases (JO r e).counts<;>simp) (opn L a - 1) a;have q4:=(EX ok.code).balls;have io:=ok.io;have co:=ok.complete;unfold Be at co;have m1:=Int.mul_le_mul_of_nonneg_left q4.1 co.1;refine ⟨one,lx,by rw [ll,B9 (by omega) (by omega)];omega,ok,rl,(cj hp).1,?_⟩;rw [bl] at be;omega
structure RowF (r:Rul) (x:List PV):Prop where
 over:∃ o:Nat,o≤1000∧pvI (AA x 2)=(o:Int)
 sector:∃ s:Nat,s≤8∧pvI (AA x 19)=(s:Int)
 striker:1≤pvI (AA x 5)∧pvI (AA x 5)≤r.side
 cre:∃ d,pvI (AA x 20)=(AD r d).batter∧pvI (AA x 21)=(AD r d).wides∧pvI (AA x 22)=(AD r d).noballs∧pvI (AA x 23)=(AD r d).byes∧pvI (AA x 24)=(AD r d).legbyes∧pvI (AA x 25)=(AD r d).bowler
theorem tD {r:Rul} {L:Rows} (hc:DV r L=0) {a:Nat} (ha:a<L.length) (hk:((evR L a).kind==4)=true) (t:Mat):RowF r (Hl (a:Int) (stM L a 0 (AZ r).1) t (evR L a).ball):=by
 have bf:=oF hc ha hk;obtain ⟨q1,q2,q3,q4,q5,q6⟩:=XJ bf.ref;have ls:=gj q4;have co:=bf.ok.complete;unfold Be at co;have st:=bf.ok.st;have over:=bf.over;have beg:CW (AU (stM L a 0 (AZ r).1)).batters=true:=by
  obtain ⟨h1,h2,h3,h4,h5⟩:=JQ hc;have a0:=Tw L.length 0 _ h4 a ha;rw [Nat.zero_add] at a0;have q:=(Wi a0).1;rw [q] at a0;obtain ⟨g1,g2,g3,g4⟩:=US a0 hk;exact ZZ (QL g3).2.2.2.1 (by rw [beq_iff_eq.1 hk];rfl)
 have z1:=(Yq q1 beg).1;rw [beq_eq_false_iff_ne] at z1;refine ⟨⟨(AU (stM L a 0 (AZ r).1)).complete.toNat,by omega,?_⟩,⟨(evR L a).ball.sector.toNat,by omega,?_⟩,?_,(evR L a).ball,?_⟩
 ·show (AU (stM L a 0 (AZ r).1)).complete=_;omega
 ·show (evR L a).ball.sector=_;omega
 ·show 1≤(AU (stM L a 0 (AZ r).1)).striker∧(AU (stM L a 0 (AZ r).1)).striker≤r.side;omega
 ·have rl:=bf.rules;show (AD (stM L a 0 (AZ r).1).rules _).batter=_∧(AD (stM L a 0 (AZ r).1).rules _).wides=_∧(AD (stM L a 0 (AZ r).1).rules _).noballs=_∧(AD (stM L a 0 (AZ r).1).rules _).byes=_∧(AD (stM L a 0 (AZ r).1).rules _).legbyes=_∧(AD (stM L a 0 (AZ r).1).rules _).bowler=_;rw [rl];exact ⟨rfl,rfl,rfl,rfl,rfl,rfl⟩
def ij (r:Rul) (L:Rows) (k:Int):Rows×Int:=cond (!(DV r L==0)) ([],DV r L) (cond (iLt k 0||iLe (opn L L.length:Int) k) ([],2) (fil k (Co r L),0))
structure Ln where
 runs:Int
 balls:Int
 fours:Int
 sixes:Int
 out:Bool
 how:Int
 bowler:Int
 fielder:Int
 batted:Bool
def lnR (p:Int) (l:Ln):List PV:=[.int p,.int l.runs,.int l.balls,.int l.fours,.int l.sixes,.bool l.out,.int l.how,.int l.bowler,.int l.fielder,.bool l.batted]
def ln0:Ln:={ runs:=0,balls:=0,fours:=0,sixes:=0,out:=false,how:=0,bowler:=0,fielder:=0,batted:=false }
def AL (o:List Int) (F:Int→Ln):Rows:=o.map fun p=>lnR p (F p)
theorem Bm (o:List Int) (F:Int→Ln):(AL o F).length=o.length:=List.length_map _
def Af (p:Int):List Int→Nat
 | []=>0
 | q::r=>cond (q==p) 0 (Af p r+1)
theorem nY (p:Int):∀ o,Af p o≤o.length
 | []=>Nat.le_refl _
 | q::r=>by
  have:=nY p r;unfold Af;cases q==p
  ·exact Nat.succ_le_succ this
  ·exact Nat.zero_le _
theorem FH {p:Int}:∀ {o:List Int},p∈o→Af p o<o.length∧o.getD (Af p o) 0=p
 | q::r,h=>by
  unfold Af;cases hq:q==p with
  | true=>exact ⟨Nat.succ_pos _,beq_iff_eq.1 hq⟩
  | false =>
   rcases List.mem_cons.1 h with rfl | h
   ·rw [beq_self_eq_true] at hq;cases hq
   ·obtain ⟨h1,h2⟩:=FH h;exact ⟨Nat.succ_lt_succ h1,h2⟩
theorem nV {p:Int}:∀ {o:List Int},p∉o→Af p o=o.length
 | [],_=>rfl
 | q::r,h=>by
  unfold Af;have hq:(q==p)=false:=beq_eq_false_iff_ne.2 fun e=>h (e▸zzl)
  rw [hq];exact congrArg (·+1) (nV fun hm=>h (zzm _ hm))
theorem UR {p:Int} {o:List Int}:Af p o<o.length↔p∈o:=by
 constructor
 ·intro h
  by_cases hm:p∈o
  ·exact hm
  ·rw [nV hm] at h;omega
 ·intro h;exact (FH h).1
theorem jN {o:List Int} {F:Int→Ln} {j:Nat} (h:j<o.length):Ac (AL o F) j=lnR (o.getD j 0) (F (o.getD j 0)):=by
 unfold Ac AL;rw [zzk,List.getElem?_map,zzn h,zzk,zzn h];rfl
theorem cT {o:List Int} {F:Int→Ln} {p:Int} (h:p∈o):Ac (AL o F) (Af p o)=lnR p (F p):=by
 obtain ⟨h1,h2⟩:=FH h;rw [jN h1,h2]
def BS (F:Int→Ln) (p:Int) (v:Ln) (q:Int):Ln:=cond (q==p) v (F q)
theorem G2 (F:Int→Ln) (p:Int) (v:Ln):BS F p v p=v:=by unfold BS;rw [beq_self_eq_true];rfl
theorem Nv (F:Int→Ln) (p:Int) (v v':Ln):BS (BS F p v) p v'=BS F p v':=funext fun q=>by
 unfold BS;cases q==p<;>rfl
theorem iE {F:Int→Ln} {p:Int} {v:Ln}:∀ {o:List Int},o.Nodup→p∈o→(AL o F).set (Af p o) (lnR p v)=AL o (BS F p v)
 | q::r,hn,h=>by
  obtain ⟨h1,h2⟩:=List.nodup_cons.1 hn;unfold Af;cases hq:q==p with
  | true =>
   have e:=beq_iff_eq.1 hq;subst e;show lnR q v::AL r F=lnR q (BS F q v q)::AL r (BS F q v);rw [G2];congr 1;unfold AL;refine List.map_congr_left fun x hx=>?_
   have:(x==q)=false:=beq_eq_false_iff_ne.2 fun e=>h1 (e▸hx)
   unfold BS;rw [this];rfl
  | false =>
   rcases List.mem_cons.1 h with rfl | h
   ·rw [beq_self_eq_true] at hq;cases hq
   ·show lnR q (F q)::(AL r F).set (Af p r) (lnR p v)=lnR q (BS F p v q)::AL r (BS F p v);rw [iE h2 h];unfold BS;rw [hq];rfl
theorem Eh {o : List Int} {F : Int → Ln} {p : Int} {v : Ln} {off : Nat} {vs : List PV} (hn : o.Nodup) (h : p ∈ o) (e : A9 (lnR p (F p)) off vs = lnR p v) :
    (AL o F).set (Af p o) (A9 (Ac (AL o F) (Af p o)) off vs)=AL o (BS F p v):=by
  rw [cT h,e,iE hn h]
theorem pz (o:List Int) (F:Int→Ln) (p:Int) (v:Ln) (h:p∉o):AL o F++[lnR p v]=AL (o++[p]) (BS F p v):=by
 unfold AL;rw [List.map_append];show _=_++[lnR p (BS F p v p)];rw [G2];congr 1;refine List.map_congr_left fun x hx=>?_
 have:(x==p)=false:=beq_eq_false_iff_ne.2 fun e=>h (e▸hx)
 unfold BS;rw [this];rfl
theorem lU {o:List Int} {F G:Int→Ln} (h:∀ p,p∈o→F p=G p):AL o F=AL o G:=by
 unfold AL;exact List.map_congr_left fun x hx=>by rw [h x hx]
theorem dk {o : List Int} {F : Int → Ln} {p : Int} {n : Nat} (hn : o.length ≤ n) {G : (List AW → Option (List PV)) → List PV → Option (List PV)} {k : Nat → List AW} {R : List PV} {Q : Nat → List PV}
    (h0:∀ self,G self ((k o.length).map Leaf.pv)=some R)
    (h1:∀ i self,i<o.length→G self ((k i).map Leaf.pv)=cond (o.getD i 0==p) (some (Q i)) (self (k (i+1)))) :
    ∀ (f i:Nat),o.length - i<f→i≤Af p o→D1 G f ((k i).map Leaf.pv)=some (cond (Nat.blt (Af p o) o.length) (Q (Af p o)) R):=by
  have below:∀ i,i<Af p o→(o.getD i 0==p)=false:=fun i hi=>by
    have go:∀ (o:List Int) (i:Nat),i<Af p o→(o.getD i 0==p)=false:=fun o=>by
      induction o with
      | nil=>intro i hi;exact absurd hi (Nat.not_lt_zero _)
      | cons q r ih =>
        intro i hi;unfold Af at hi;cases hq:q==p with
        | true=>rw [hq] at hi;exact absurd hi (Nat.not_lt_zero _)
        | false =>
          rw [hq,cond_false] at hi;cases i with
          | zero=>exact hq
          | succ i=>exact ih i (Nat.lt_of_succ_lt_succ hi)
    exact go o i hi
  intro f
  induction f with
  | zero=>intro i hf;exact absurd hf (Nat.not_lt_zero _)
  | succ f ih =>
    intro i hf hi;have pl:=nY p o
    by_cases hlt:i<o.length
    · show G _ _=_;rw [h1 i _ hlt]
      by_cases hp:i=Af p o
      · obtain ⟨_,h2⟩:=FH (UR.1 (hp▸hlt));rw [hp,h2,beq_self_eq_true,cond_true,show Nat.blt (Af p o) o.length=true from Nat.ble_eq_true_of_le (hp▸hlt)];rfl
      · rw [below i (by omega),cond_false];exact ih (i+1) (by omega) (by omega)
    · have e:Af p o=o.length:=by omega
      have e2:i=o.length:=by omega
      show G _ _=_;rw [e2,h0,e,show Nat.blt o.length o.length=false by
        cases hb:Nat.blt o.length o.length with
        | false=>rfl
        | true=>exact absurd (Nat.le_of_ble_eq_true hb) (Nat.lt_irrefl _)]
      rfl
def Ci (o:List Int) (p:Int):List Int:=cond (Nat.blt (Af p o) o.length) o (o++[p])
theorem Je {p:Int} {o:List Int}:Nat.blt (Af p o) o.length=true↔p∈o:=⟨fun h=>UR.1 (Nat.le_of_ble_eq_true h),fun h=>Nat.ble_eq_true_of_le (UR.2 h)⟩
theorem G3 {o:List Int} {p:Int} (h:o.Nodup):(Ci o p).Nodup:=by
 unfold Ci;cases hb:Nat.blt (Af p o) o.length with
 | true=>exact h
 | false =>
  rw [cond_false];refine List.nodup_append.2 ⟨h,List.nodup_cons.2 ⟨List.not_mem_nil,List.nodup_nil⟩,fun x hx y hy e=>?_⟩;have hy:=List.mem_singleton.1 hy;rw [e,hy] at hx;have:=Je.2 hx;rw [hb] at this;cases this
theorem Jr {o:List Int} {p q:Int}:q∈Ci o p↔q∈o∨q=p:=by
 unfold Ci;cases hb:Nat.blt (Af p o) o.length with
 | true =>
  have:=Je.1 hb;exact ⟨fun h=>.inl h,fun h=>h.elim id fun e=>e▸this⟩
 | false=>rw [cond_false,List.mem_append,List.mem_singleton]
theorem Tu (o:List Int) (p:Int):(Ci o p).length≤o.length+1:=by
 unfold Ci;cases Nat.blt (Af p o) o.length
 ·rw [cond_false,List.length_append];exact Nat.le_refl _
 ·exact Nat.le_succ _
def Zn (F:Int→Ln) (o:List Int) (p:Int) (b:Bool):Int→Ln:=BS F p (cond (Nat.blt (Af p o) o.length) { F p with batted:=(F p).batted||b } { ln0 with batted:=b })
def BR (L:Rows):Nat→List Int
 | 0=>[]
 | n+1=>cond ((evR L n).kind==2) (Ci (Ci (BR L n) (evR L n).player) (evR L n).other) (cond ((evR L n).kind==5) (Ci (BR L n) (evR L n).player) (BR L n))
def CE (L:Rows) (p:Int):Nat→Bool
 | 0=>false
 | n+1=>CE L p n||cond ((evR L n).kind==2) (p==(evR L n).player||p==(evR L n).other) (cond ((evR L n).kind==5) (p==(evR L n).player && !(evR L n).yes) false)
def Nb (o:List Int):Nat→List Int
 | 0=>o
 | n+1=>Ci (Nb o n) ((n:Int)+1)
theorem Pq (L:Rows):∀ n,(BR L n).Nodup
 | 0=>List.nodup_nil
 | n+1=>by
  have ih:=Pq L n;unfold BR;cases (evR L n).kind==2 with
  | true=>exact G3 (G3 ih)
  | false =>
   cases (evR L n).kind==5 with
   | true=>exact G3 ih
   | false=>exact ih
theorem UQ (L:Rows):∀ n,(BR L n).length≤2 * n
 | 0=>Nat.le_refl _
 | n+1=>by
  have ih:=UQ L n;unfold BR;cases (evR L n).kind==2 with
  | true =>
   have h1:=Tu (BR L n) (evR L n).player;have h2:=Tu (Ci (BR L n) (evR L n).player) (evR L n).other;show (Ci _ _).length≤_;omega
  | false =>
   cases (evR L n).kind==5 with
   | true =>
    have h1:=Tu (BR L n) (evR L n).player;show (Ci _ _).length≤_;omega
   | false=>show (BR L n).length≤_;omega
theorem UP {o:List Int} (h:o.Nodup):∀ n,(Nb o n).Nodup
 | 0=>h
 | n+1=>G3 (UP h n)
theorem ZT (o:List Int):∀ n,(Nb o n).length≤o.length+n
 | 0=>Nat.le_refl _
 | n+1=>by
  have:=ZT o n;have h2:=Tu (Nb o n) ((n:Int)+1);show (Ci _ _).length≤_;omega
theorem ZN {o:List Int} {p:Int}:∀ {n:Nat},p∈Nb o n↔p∈o∨(1≤p∧p≤(n:Int))
 | 0=>by
  show p∈o↔_;constructor
  ·exact .inl
  ·rintro (h | h)
   ·exact h
   ·omega
 | n+1=>by
  show p∈Ci (Nb o n) ((n:Int)+1)↔_;rw [Jr,ZN];constructor
  ·rintro ((h | h) | h)
   ·exact .inl h
   ·exact .inr (by omega)
   ·exact .inr (by omega)
  ·rintro (h | h)
   ·exact .inl (.inl h)
   ·by_cases e:p=(n:Int)+1
    ·exact .inr e
    ·exact .inl (.inr (by omega))
theorem Q6 {o:List Int} {F:Int→Ln} {i:Nat} (h:i<o.length):pvI (AG (AL o F) i 0)=o.getD i 0:=by
 unfold AG;rw [jN h];rfl
set_option maxHeartbeats 1000000 in
theorem Ce {N:Nat} {o:List Int} {F:Int→Ln} {p:Int} (ho:o.length≤1048576) (hN:2097152<N):Br N [.rows (AL o F),.rows [[.int p]]]=some [.int (cond (Nat.blt (Af p o) o.length) (Af p o:Int) (-1))]:=by
 show Bs (std (Bh N) N) (xOf _)=_;simp only [Bs,lq9,std,xOf,PXb];refine Ab (dk (o:=o) (F:=F) (p:=p) (n:=o.length) (Nat.le_refl _) (k:=fun i=>[.int (i:Int)]) (R:=[.int 1]) (Q:=fun i=>[.int 0,.int (i:Int)]) ?_ ?_ N 0 (by omega) (Nat.zero_le _)) ?_
 ·intro self;simp only [PXb,PXc,PXn,AF,Bm,BE,List.map_cons,List.map_nil,Leaf.pv]
 ·intro i self hi;simp only [PXb,PXc,PXn,AF,Bm,Ck (show i≤1099511627776 by omega),A5 hi,AY hi,Q6 hi,List.map_cons,List.map_nil,Leaf.pv];rfl
 ·cases Nat.blt (Af p o) o.length<;>rfl
theorem nU {o : List Int} {F : Int → Ln} {p : Int} {N : Nat} (hN : o.length < N) {G : (List AW → Option (List PV)) → List PV → Option (List PV)} {k1 k2 : List PV → Option (List PV)} {g : Option (List PV)}
    (h0:∀ self,G self [.int (o.length:Int),.int p]=some [.int 1,.int p])
    (h1:∀ i self,i<o.length→G self [.int (i:Int),.int p]=cond (o.getD i 0==p) (some [.int 0,.int (i:Int),.int p]) (self [.int ((i+1:Nat):Int),.int p]))
    (hk:(k1 (cond (Nat.blt (Af p o) o.length) [.int 0,.int (Af p o:Int),.int p] [.int 1,.int p])).bind k2=g):((D1 G N [.int 0,.int p]).bind k1).bind k2=g:=by
  have:=dk (o:=o) (F:=F) (p:=p) (n:=o.length) (Nat.le_refl _) (k:=fun i=>[.int (i:Int),.int p]) (R:=[.int 1,.int p]) (Q:=fun i=>[.int 0,.int (i:Int),.int p]) (G:=G) h0 h1 N 0 (by omega) (Nat.zero_le _);have e:D1 G N [.int 0,.int p]=some (cond (Nat.blt (Af p o) o.length) [.int 0,.int (Af p o:Int),.int p] [.int 1,.int p]):=this;rw [e];exact hk
theorem qy {p:Int} {o:List Int} (h:p∉o):Af p (o++[p])=o.length:=by
 induction o with
 | nil=>show Af p [p]=0;unfold Af;rw [beq_self_eq_true];rfl
 | cons q r ih =>
  show Af p (q::(r++[p]))=_;unfold Af;have hq:(q==p)=false:=beq_eq_false_iff_ne.2 fun e=>h (e▸zzl)
  rw [hq];exact congrArg (·+1) (ih fun hm=>h (zzm _ hm))
def F7 (B:Int→Bool) (p:Int):Ln:={ ln0 with batted:=B p }
theorem ck {o:List Int} {B:Int→Bool} {p:Int} {b:Bool} (hB:∀ q,q∉o→B q=false):Zn (F7 B) o p b=F7 fun q=>B q||(q==p&&b):=funext fun q=>by
 have e:F7 (fun q=>B q||(q==p&&b)) q={ ln0 with batted:=B q||(q==p&&b) }:=rfl;rw [e];unfold Zn BS;cases hq:q==p with
 | true =>
  have e:=beq_iff_eq.1 hq;subst e;rw [Bool.true_and,cond_true];cases hb:Nat.blt (Af q o) o.length with
  | true=>rfl
  | false =>
   have:B q=false:=hB q fun hm=>by rw [Je.2 hm] at hb;cases hb
   rw [this];rfl
 | false =>
  rw [cond_false,Bool.false_and,Bool.or_false];rfl
theorem Tq {L:Rows} {p:Int}:∀ n,p∉BR L n→CE L p n=false
 | 0,_=>rfl
 | n+1,h=>by
  unfold BR at h;unfold CE;cases h2:(evR L n).kind==2 with
  | true =>
   rw [h2,cond_true] at h;have h3:¬ (p∈Ci (BR L n) (evR L n).player∨p=(evR L n).other):=fun hc=>h (Jr.2 hc)
   have h4:¬ (p∈BR L n∨p=(evR L n).player):=fun hc=>h3 (.inl (Jr.2 hc))
   rw [Tq n (fun hc=>h4 (.inl hc)),cond_true,beq_eq_false_iff_ne.2 (fun e=>h4 (.inr e)),beq_eq_false_iff_ne.2 (fun e=>h3 (.inr e))];rfl
  | false =>
   rw [h2,cond_false] at h;cases h5:(evR L n).kind==5 with
   | true =>
    rw [h5,cond_true] at h;have h4:¬ (p∈BR L n∨p=(evR L n).player):=fun hc=>h (Jr.2 hc)
    rw [Tq n (fun hc=>h4 (.inl hc)),beq_eq_false_iff_ne.2 (fun e=>h4 (.inr e))];rfl
   | false =>
    rw [h5,cond_false] at h;rw [Tq n h];rfl
def py (L:Rows) (n:Nat):Rows:=AL (BR L n) (F7 fun p=>CE L p n)
def cL (L:Rows) (k:Nat):Rows:=AL (Nb (BR L L.length) k) (F7 fun p=>CE L p L.length)
theorem fY {o:List Int} {B:Int→Bool} {p:Int} (hB:∀ q,q∉o→B q=false):Zn (F7 B) o p true=F7 fun q=>B q||q==p:=by
 have e:(fun q:Int=>B q||(q==p&&true))=fun q=>B q||q==p:=funext fun q=>by rw [Bool.and_true]
 rw [ck hB,e]
def Qs (F:Int→Ln) (o:List Int) (p:Int):Int→Ln:=cond (Nat.blt (Af p o) o.length) F (BS F p ln0)
theorem oO {o:List Int} {F:Int→Ln} {p:Int}:AL (Ci o p) (Qs F o p)=cond (Nat.blt (Af p o) o.length) (AL o F) (AL o F++[lnR p ln0]):=by
 unfold Ci Qs;cases hb:Nat.blt (Af p o) o.length with
 | true=>rfl
 | false =>
  have hm:p∉o:=fun hm=>by rw [Je.2 hm] at hb;cases hb
  exact (pz o F p ln0 hm).symm
theorem aJ (o:List Int) (p:Int):p∈Ci o p:=Jr.2 (.inr rfl)
theorem rJ {o:List Int} {p:Int}:Af p (Ci o p)=cond (Nat.blt (Af p o) o.length) (Af p o) o.length:=by
 unfold Ci;cases hb:Nat.blt (Af p o) o.length with
 | true=>rfl
 | false =>
  have hm:p∉o:=fun hm=>by rw [Je.2 hm] at hb;cases hb
  exact qy hm
theorem UF {o:List Int} {F:Int→Ln} {p:Int} {b:Bool}:BS (Qs F o p) p { Qs F o p p with batted:=(Qs F o p p).batted||b }=Zn F o p b:=by
 unfold Qs Zn;cases hb:Nat.blt (Af p o) o.length with
 | true=>rfl
 | false =>
  rw [cond_false,Nv,G2];rfl
theorem XP {o : List Int} {F : Int → Ln} {p : Int} {N : Nat} (hN : o.length < N) (hl : o.length ≤ 100000) {G : (List AW → Option (List PV)) → List PV → Option (List PV)} {K3 : List PV → Option (List PV)} {g : Option (List PV)}
    (h0:∀ self,G self [.int (o.length:Int),.int p]=some [.int 1,.int p])
    (h1:∀ i self,i<o.length→G self [.int (i:Int),.int p]=cond (o.getD i 0==p) (some [.int 0,.int (i:Int),.int p]) (self [.int ((i+1:Nat):Int),.int p]))
    (hk:K3 [.int (Af p (Ci o p):Int),.rows (AL (Ci o p) (Qs F o p))]=g) :
    ((D1 G N [PV.int 0,PV.int p]).bind fun c1=>bif pvI (AA c1 0)==((0:Nat):Int) then some [PV.int (pvI (AA c1 1)),PV.int (pvI (AA c1 2))] else some [PV.int (-1),PV.int (pvI (AA c1 1))]).bind
      (fun c1=>(bif iLt (pvI (AA c1 0)) 0 then bif iSm (((AL o F++[[PV.int (pvI (AA c1 1)),PV.int 0,PV.int 0,PV.int 0,PV.int 0,PV.bool false,PV.int 0,PV.int 0,PV.int 0,PV.bool false]]).length:Nat):Int) 72 then some [PV.int (IntKind.i64.wrap ((((AL o F++[[PV.int (pvI (AA c1 1)),PV.int 0,PV.int 0,PV.int 0,PV.int 0,PV.bool false,PV.int 0,PV.int 0,PV.int 0,PV.bool false]]).length:Nat):Int) - 1)),PV.rows (AL o F++[[PV.int (pvI (AA c1 1)),PV.int 0,PV.int 0,PV.int 0,PV.int 0,PV.bool false,PV.int 0,PV.int 0,PV.int 0,PV.bool false]])] else none else some [PV.int (pvI (AA c1 0)),PV.rows (AL o F)]).bind K3)=g:=by
  refine nU (F:=F) hN h0 h1 ?_;rw [oO,rJ] at hk;cases hb:Nat.blt (Af p o) o.length with
  | true =>
    simp only [hb,cond_true] at hk;have e:iLt (Af p o:Int) 0=false:=by simp only [iLt,decide_eq_false_iff_not];omega
    simp only [PXb,PXc,PXn,AF,e];exact hk
  | false =>
    simp only [hb,cond_false] at hk;have ll:(AL o F++[lnR p ln0]).length=o.length+1:=by rw [List.length_append,Bm];rfl
    have e2:iSm (((AL o F++[lnR p ln0]).length:Nat):Int) 72=true:=by rw [ll];exact ID (by omega) (by omega)
    have e3:IntKind.i64.wrap ((((AL o F++[lnR p ln0]).length:Nat):Int) - 1)=(o.length:Int):=by
      rw [ll,B9 (by omega) (by omega)];omega
    have e4:iLt (-1) 0=true:=rfl;have e5:[PV.int p,PV.int 0,PV.int 0,PV.int 0,PV.int 0,PV.bool false,PV.int 0,PV.int 0,PV.int 0,PV.bool false]=lnR p ln0:=rfl;have q:((1:Int)==((0:Nat):Int))=false:=rfl;simp only [PXb,PXc,PXn,AF,q,e4];rw [e5,e2,e3];exact hk
theorem pZ {o:List Int} {F:Int→Ln} {p:Int} (h:p∈o):pvB (AG (AL o F) (Af p o) 9)=(F p).batted:=by unfold AG;rw [cT h];rfl
theorem iS {o : List Int} {F : Int → Ln} {p : Int} {b : Bool} (hn : o.Nodup) (h : p ∈ o) :
    (AL o F).set (Af p o) (A9 (Ac (AL o F) (Af p o)) 9 [.bool (pvB (AG (AL o F) (Af p o) 9)||b)])=AL o (BS F p { F p with batted:=(F p).batted||b }):=by
  rw [pZ h,Eh (v:={ F p with batted:=(F p).batted||b }) hn h rfl]
theorem md {o : List Int} {F : Int → Ln} {p : Int} (hn : o.Nodup) (h : p ∈ o) :
    (AL o F).set (Af p o) (A9 (Ac (AL o F) (Af p o)) 9 [.bool (pvB (AG (AL o F) (Af p o) 9))])=AL o (BS F p { F p with batted:=(F p).batted||false }):=by
  have:=iS (b:=false) hn h (F:=F);rw [Bool.or_false] at this;exact this
set_option maxHeartbeats 8000000 in
theorem bg {N:Nat} {r1 r2 r3 r4 r5 r6 r7 r9 r10 r11 r12:Int} {r8:Bool} {r0:ByteArray} {r13:Rows} {L:Rows} (hN:2097152<N) (hL:L.length≤4000) (h0:0≤r1) (h1:r1≤100):IZ N [.str r0,.int r1,.int r2,.int r3,.int r4,.int r5,.int r6,.int r7,.bool r8,.int r9,.int r10,.int r11,.int r12,.rows r13,.rows L]=some [.rows (cL L r1.toNat)]:=by
 show IX (std (PS N) N) (xOf _)=_;simp only [IX,lq9,std,xOf,PXb];refine Ab (Cu (len:=L.length) (fun i=>[.int (i:Int),.rows (py L i)]) [.rows (py L L.length)] ?_ ?_ N (by omega)) ?_
 ·intro self;simp only [PXb,PXc,PXn,AF,BE]
 ·intro i self hi;have on:=Pq L i;have ol:=UQ L i;have wi:IntKind.i64.wrap ((i:Int)+1)=((i+1:Nat):Int):=Ck (show i≤1099511627776 by omega);simp only [PXb,PXc,PXn,AF,A5 hi,AY hi,py];have kk:(evR L i).kind=pvI (AG L i 0):=rfl;have kp:(evR L i).player=pvI (AG L i 2):=rfl;have ko:(evR L i).other=pvI (AG L i 3):=rfl;have ky:(evR L i).yes=pvB (AG L i 4):=rfl;have eo:BR L (i+1)=cond ((evR L i).kind==2) (Ci (Ci (BR L i) (evR L i).player) (evR L i).other) (cond ((evR L i).kind==5) (Ci (BR L i) (evR L i).player) (BR L i)):=rfl;rw [eo,kk];have no:∀ q,q∉BR L i→CE L q i=false:=fun q hq=>Tq i hq
  cases h2:pvI (AG L i 0)==2 with
  | true =>
   rw [cond_true,cond_true,← kp,← ko];refine XP (by omega) (by omega) ?_ ?_ ?_
   ·intro self;simp only [PXb,PXc,PXn,AF,Bm,BE]
   ·intro j self hj;simp only [PXb,PXc,PXn,AF,Bm,Ck (show j≤1099511627776 by omega),A5 hj,AY hj,Q6 hj]
   ·have i1:=aJ (BR L i) (evR L i).player;have n1:=G3 (p:=(evR L i).player) on;have l1:=Tu (BR L i) (evR L i).player;simp only [PXb,PXc,PXn,AF,Bm,AY (FH i1).1,Int.toNat_natCast];rw [Eh (v:={ Qs (F7 fun p=>CE L p i) (BR L i) (evR L i).player (evR L i).player with batted:=true }) n1 i1 rfl];have a1:BS (Qs (F7 fun p=>CE L p i) (BR L i) (evR L i).player) (evR L i).player { Qs (F7 fun p=>CE L p i) (BR L i) (evR L i).player (evR L i).player with batted:=true }=F7 fun q=>CE L q i||q==(evR L i).player:=by
     have:=UF (o:=BR L i) (F:=F7 fun p=>CE L p i) (p:=(evR L i).player) (b:=true);rw [Bool.or_true,fY no] at this;exact this
    rw [a1];refine XP (by omega) (by omega) ?_ ?_ ?_
    ·intro self;simp only [PXb,PXc,PXn,AF,Bm,BE]
    ·intro j self hj;simp only [PXb,PXc,PXn,AF,Bm,Ck (show j≤1099511627776 by omega),A5 hj,AY hj,Q6 hj]
    ·have i2:=aJ (Ci (BR L i) (evR L i).player) (evR L i).other;have n2:=G3 (p:=(evR L i).other) n1;simp only [PXb,PXc,PXn,AF,Bm,AY (FH i2).1,Int.toNat_natCast];rw [Eh (v:={ Qs (F7 fun q=>CE L q i||q==(evR L i).player) (Ci (BR L i) (evR L i).player) (evR L i).other (evR L i).other with batted:=true }) n2 i2 rfl];have no2:∀ q,q∉Ci (BR L i) (evR L i).player→(CE L q i||q==(evR L i).player)=false:=fun q hq=>by
      have hq2:¬ (q∈BR L i∨q=(evR L i).player):=fun hc=>hq (Jr.2 hc)
      rw [no q (fun hc=>hq2 (.inl hc)),beq_eq_false_iff_ne.2 (fun e=>hq2 (.inr e))];rfl
     have a2:=UF (o:=Ci (BR L i) (evR L i).player) (F:=F7 fun q=>CE L q i||q==(evR L i).player) (p:=(evR L i).other) (b:=true);rw [Bool.or_true,fY no2] at a2;rw [a2,wi];have a3:(fun q=>(CE L q i||q==(evR L i).player)||q==(evR L i).other)=fun q=>CE L q (i+1):=funext fun q=>by
      show _=(CE L q i||cond ((evR L i).kind==2) (q==(evR L i).player||q==(evR L i).other) _);rw [show ((evR L i).kind==2)=true from h2,cond_true,Bool.or_assoc]
     rw [a3]
  | false =>
   cases h5:pvI (AG L i 0)==5 with
   | true =>
    rw [cond_false,cond_true,cond_false,cond_true,← kp];refine XP (by omega) (by omega) ?_ ?_ ?_
    ·intro self;simp only [PXb,PXc,PXn,AF,Bm,BE]
    ·intro j self hj;simp only [PXb,PXc,PXn,AF,Bm,Ck (show j≤1099511627776 by omega),A5 hj,AY hj,Q6 hj]
    ·have i1:=aJ (BR L i) (evR L i).player;have n1:=G3 (p:=(evR L i).player) on;simp only [PXb,PXc,PXn,AF,Bm,AY (FH i1).1,Int.toNat_natCast];rw [iS n1 i1,UF,ck no,wi,← ky];have a3:(fun q=>CE L q i||(q==(evR L i).player && !(evR L i).yes))=fun q=>CE L q (i+1):=funext fun q=>by
      show _=(CE L q i||cond ((evR L i).kind==2) _ (cond ((evR L i).kind==5) (q==(evR L i).player && !(evR L i).yes) false));rw [show ((evR L i).kind==2)=false from h2,show ((evR L i).kind==5)=true from h5];rfl
     rw [a3]
   | false =>
    rw [cond_false,cond_false,cond_false,cond_false,wi];have a3:(fun q=>CE L q i)=fun q=>CE L q (i+1):=funext fun q=>by
     show _=(CE L q i||cond ((evR L i).kind==2) _ (cond ((evR L i).kind==5) _ false));rw [show ((evR L i).kind==2)=false from h2,show ((evR L i).kind==5)=false from h5];exact (Bool.or_false _).symm
    rw [a3]
 ·have on:=Pq L L.length;have ol:=UQ L L.length;have no:∀ q,q∉BR L L.length→CE L q L.length=false:=fun q hq=>Tq L.length hq
  obtain ⟨k,hk⟩:∃ k:Nat,r1=(k:Int):=⟨r1.toNat,by omega⟩;subst hk;rw [Int.toNat_natCast];simp only [PXb,PXc,PXn,AF];refine Ab (Cu (len:=k) (fun j=>[.int ((j:Int)+1),.rows (cL L j)]) [.rows (cL L k)] ?_ ?_ N (by omega)) rfl
  ·intro self;have e:iLe ((k:Int)+1) (k:Int)=false:=by simp only [iLe,decide_eq_false_iff_not];omega
   simp only [PXb,PXc,PXn,AF,e]
  ·intro j self hj;have e:iLe ((j:Int)+1) (k:Int)=true:=by simp only [iLe,decide_eq_true_eq];omega
   have jn:=UP on j;have jl:=ZT (BR L L.length) j;have no3:∀ q,q∉Nb (BR L L.length) j→CE L q L.length=false:=fun q hq=>no q fun hc=>hq (ZN.2 (.inl hc))
   have eo:cL L (j+1)=AL (Ci (Nb (BR L L.length) j) ((j:Int)+1)) (F7 fun p=>CE L p L.length):=rfl;rw [eo];simp only [PXb,PXc,PXn,AF,e,cL];refine XP (by omega) (by omega) ?_ ?_ ?_
   ·intro self;simp only [PXb,PXc,PXn,AF,Bm,BE]
   ·intro i self hi;simp only [PXb,PXc,PXn,AF,Bm,Ck (show i≤1099511627776 by omega),A5 hi,AY hi,Q6 hi]
   ·have i1:=aJ (Nb (BR L L.length) j) ((j:Int)+1);have n1:=G3 (p:=(j:Int)+1) jn;have wj:IntKind.i64.wrap ((j:Int)+1+1)=((j+1:Nat):Int)+1:=by rw [B9 (by omega) (by omega)];omega
    have a3:(fun q=>CE L q L.length||(q==(j:Int)+1&&false))=fun q=>CE L q L.length:=funext fun q=>by rw [Bool.and_false,Bool.or_false]
    simp only [PXb,PXc,PXn,AF,Bm,AY (FH i1).1,Int.toNat_natCast];rw [md n1 i1,UF,ck no3,a3,wj]
theorem cp {p:Int} {n:Nat}:inR p n=true↔1≤p∧p≤(n:Int):=by
 unfold inR;simp only [iLe,zzj,decide_eq_true_eq]
theorem qs {s:Inn} {p q:Int} (h:((OA s p q).2==0)=true):inR p s.batters.length=true∧inR q s.batters.length=true:=by
 unfold OA at h;cases hb:CW s.batters with
 | true=>rw [hb] at h;cases h
 | false =>
  cases hp:inR p s.batters.length with
  | false=>rw [hb,hp] at h;cases h
  | true =>
   cases hq:inR q s.batters.length with
   | false=>rw [hb,hp,hq] at h;cases h
   | true=>exact ⟨rfl,rfl⟩
structure EvIn (r:Rul) (e:Ev):Prop where
 op:e.kind=2→(1≤e.player∧e.player≤r.side)∧(1≤e.other∧e.other≤r.side)
 en:e.kind=5→1≤e.player∧e.player≤r.side
 re:e.kind=6→1≤e.player∧e.player≤r.side
theorem lL {r:Rul} {s:Inn} {e:Ev} (hl:(s.batters.length:Int)=r.side) (h:((Ba r s e).2==0)=true):EvIn r e:=by
 unfold Ba at h;refine ⟨fun k=>?_,fun k=>?_,fun k=>?_⟩
 ·rw [k] at h;have h:((OA s e.player e.other).2==0)=true:=h;obtain ⟨a,b⟩:=qs h;rw [cp,hl] at a b;exact ⟨a,b⟩
 ·rw [k] at h;have h:((cond e.yes (Ej s e.player) (Kc s e.player)).2==0)=true:=h;have m:(Ix s e.player==0)=true:=by
   cases hm:Ix s e.player==0 with
   | true=>rfl
   | false =>
    cases hy:e.yes with
    | true=>rw [hy] at h;unfold Ej at h;rw [hm] at h;rw [show (Ix s e.player==0)=true from h] at hm;cases hm
    | false=>rw [hy] at h;unfold Kc at h;rw [hm] at h;rw [show (Ix s e.player==0)=true from h] at hm;cases hm
  have:=XC m;rw [cp,hl] at this;exact this
 ·rw [k] at h;have h:((FG s e.player e.yes).2==0)=true:=h;have:=(oD h).1;rw [cp,hl] at this;exact this
theorem kY {r:Rul} {s:Inn} {e:Ev} (h:((Am r s e).2==0)=true):EvIn r e:=by
 obtain ⟨hv,he,hn,hw,hp,hs⟩:=QL h;exact lL (JJ.1 hv).lb hp
theorem q9 {r:Rul} {e:Ev} (h2:(e.kind==2)=false) (h5:(e.kind==5)=false) (h6:(e.kind==6)=false):EvIn r e where
 op k:=by rw [k] at h2;cases h2
 en k:=by rw [k] at h5;cases h5
 re k:=by rw [k] at h6;cases h6
theorem Yi {m:Mat} {b:Bool} {x:Mat×Int} (h:((cond (!b) (m,1) x).2==0)=true):b=true∧(x.2==0)=true:=by
 cases b with
 | false=>cases h
 | true=>exact ⟨rfl,h⟩
theorem jE {m:Mat} {t:Int} {x:Mat×Int} (h:((cond (!(t==0)) (m,t) x).2==0)=true):(t==0)=true:=by
 cases ht:t==0 with
 | true=>rfl
 | false =>
  rw [ht] at h;rw [show (t==0)=true from h] at ht;cases ht
theorem qu {m:Mat} {e:Ev} (h:((Ds m e).2==0)=true):EvIn m.rules e:=by
 unfold Ds at h;exact kY (jE h)
theorem oV {m:Mat} {e:Ev} (h:((C8 m e).2==0)=true):EvIn m.rules e:=by
 obtain ⟨hv,he,h5,ha,hs⟩:=T7 h;unfold HF at ha;have go:∀ k,e.kind=k→(k==1)=false→(k==2)=false→(k==12)=false→(k==16)=false→EvIn m.rules e:=fun k hk a b c d=>by
  rw [hk,a,b,c,d] at ha;have ha:((cond (!(m.stage==3)) (m,1) (Ds m e)).2==0)=true:=ha;exact qu (Yi ha).2
 cases k2:e.kind==2 with
 | true =>
  have k:=beq_iff_eq.1 k2;rw [k] at ha;have ha:((cond (!(m.stage==2)) (m,1) (Un m e)).2==0)=true:=ha;have ha:=(Yi ha).2;unfold Un at ha;exact kY (jE (Yi ha).2)
 | false =>
  cases k5:e.kind==5 with
  | true=>exact go 5 (beq_iff_eq.1 k5) rfl rfl rfl rfl
  | false =>
   cases k6:e.kind==6 with
   | true=>exact go 6 (beq_iff_eq.1 k6) rfl rfl rfl rfl
   | false=>exact q9 k2 k5 k6
theorem qS {r:Rul} {L:Rows} (hc:DV r L=0) {a:Nat} (ha:a<L.length):EvIn r (evR L a):=by
 obtain ⟨h1,h2,h3,h4,h5⟩:=JQ hc;obtain ⟨li,so,_⟩:=Nt h1 h4 a (by omega);have a0:=Tw L.length 0 _ h4 a ha;rw [Nat.zero_add] at a0;have q:=(Wi a0).1;rw [q] at a0;have:=oV a0;rw [so.rules] at this;exact this
def Dz (x:List PV):Int:=cond (pvI (AA x 14)==0) 0 (cond (pvI (AA x 15)==1) (pvI (AA x 5)) (cond (pvI (AA x 15)==2) (pvI (AA x 6)) 0))
def oa (x:List PV):Bool:=pvI (AA x 9)==1&&pvI (AA x 10)==0
def Qi (x:List PV) (l:Ln):Ln:={ l with runs:=IntKind.i64.wrap (l.runs+pvI (AA x 20)),balls:=cond (pvB (AA x 27)) (IntKind.i64.wrap (l.balls+1)) l.balls,fours:=cond (oa x&&pvI (AA x 12)==4) (IntKind.i64.wrap (l.fours+1)) l.fours,sixes:=cond (oa x&&pvI (AA x 12)==6) (IntKind.i64.wrap (l.sixes+1)) l.sixes }
def sW (x:List PV) (l:Ln):Ln:={ l with out:=true,how:=pvI (AA x 14),fielder:=pvI (AA x 16),bowler:=cond (pvB (AA x 28)) (pvI (AA x 4)) l.bowler }
def fg (x:List PV) (p:Int) (l:Ln):Ln:=cond (Dz x==p) (sW x (cond (pvI (AA x 5)==p) (Qi x l) l)) (cond (pvI (AA x 5)==p) (Qi x l) l)
def dLn (k:Int) (D:Rows) (F:Int→Ln):Nat→Int→Ln
 | 0,p=>F p
 | n+1,p=>cond (pvI (AG D n 1)==k) (fg (Ac D n) p (dLn k D F n p)) (dLn k D F n p)
def evL (e:Ev) (p:Int) (l:Ln):Ln:=cond (e.kind==5&&e.yes) (cond (e.player==p) { l with out:=true,how:=9 } l) (cond (e.kind==6 && !e.yes) (cond (e.player==p) { l with out:=true,how:=10 } l) l)
def eLn (E:Rows) (F:Int→Ln):Nat→Int→Ln
 | 0,p=>F p
 | n+1,p=>evL (evR E n) p (eLn E F n p)
def Rr (r:Rul) (L:Rows) (k:Int):Rows×Int:=cond ((ij r L k).2==0)
  (AL (Nb (BR (D3 L k.toNat) (D3 L k.toNat).length) r.side.toNat) (eLn (D3 L k.toNat) (dLn k (Co r L) (F7 fun p=>CE (D3 L k.toNat) p (D3 L k.toNat).length) (Co r L).length) (D3 L k.toNat).length),0) ([],(ij r L k).2)
theorem WB {N:Nat} {a:Int} {b:Int} {c:Int} {d:Int} {f:Int} {x:Bool} {h:Int} {v:Int} {i:Int} {j:Int} {y:Bool} {g:Int} {p:Int} {q:Int}  : FZ N [.int a,.int b,.int c,.int d,.int f,.bool x,.int h,.int v,.int i,.int j,.bool y,.int g,.int p,.int q]=some [.int (cond (h==0) 0 (cond (v==1) p (cond (v==2) q 0)))]:=by
 show Fn (std (MJ N) N) (xOf _)=_;simp only [Fn,lq9,std,xOf,PXb];cases h==0<;>cases v==1<;>cases v==2<;>rfl
theorem qb {r:Rul} {L:Rows} (hc:DV r L=0) {a:Nat} (ha:a<L.length) (hk:((evR L a).kind==4)=true) (t:Mat):Dz (Hl (a:Int) (stM L a 0 (AZ r).1) t (evR L a).ball)=0∨(1≤Dz (Hl (a:Int) (stM L a 0 (AZ r).1) t (evR L a).ball)∧Dz (Hl (a:Int) (stM L a 0 (AZ r).1) t (evR L a).ball)≤r.side):=by
 have bf:=oF hc ha hk;have st:=bf.ok.st;have ot:=bf.ok.ot;have e:Dz (Hl (a:Int) (stM L a 0 (AZ r).1) t (evR L a).ball)=cond ((evR L a).ball.how==0) 0 (cond ((evR L a).ball.victim==1) (AU (stM L a 0 (AZ r).1)).striker (cond ((evR L a).ball.victim==2) (AU (stM L a 0 (AZ r).1)).other 0)):=rfl;rw [e];cases (evR L a).ball.how==0 with
 | true=>exact .inl rfl
 | false =>
  cases (evR L a).ball.victim==1 with
  | true=>show (AU (stM L a 0 (AZ r).1)).striker=0∨(1≤(AU (stM L a 0 (AZ r).1)).striker∧(AU (stM L a 0 (AZ r).1)).striker≤r.side);omega
  | false =>
   cases (evR L a).ball.victim==2 with
   | true=>show (AU (stM L a 0 (AZ r).1)).other=0∨(1≤(AU (stM L a 0 (AZ r).1)).other∧(AU (stM L a 0 (AZ r).1)).other≤r.side);omega
   | false=>exact .inl rfl
theorem kg {r:Rul} {L:Rows} (hc:DV r L=0):∀ n,n≤L.length→∀ x,x∈UY L n 0 (AZ r).1 []→RowF r x∧(Dz x=0∨(1≤Dz x∧Dz x≤r.side))
 | 0,_,x,hx=>absurd hx List.not_mem_nil
 | n+1,hn,x,hx=>by
  have ih:=kg hc n (by omega);rw [aE,Nat.zero_add] at hx;cases hk:(evR L n).kind==4 with
  | false =>
   rw [hk,cond_false] at hx;exact ih x hx
  | true =>
   rw [hk,cond_true] at hx
   rcases List.mem_append.1 hx with hx | hx
   ·exact ih x hx
   ·rw [List.mem_singleton.1 hx];exact ⟨tD hc (show n<L.length by omega) hk _,qb hc (show n<L.length by omega) hk _⟩
theorem dp {r:Rul} {L:Rows} (hc:DV r L=0):Co r L=UY L L.length 0 (AZ r).1 []:=by
 obtain ⟨h1,h2,h3,h4,h5⟩:=JQ hc;unfold Co;rw [h1];obtain ⟨j,j1,j2,j3,j4⟩:=Y5 L L.length 0 (AZ r).1;show Mk L L.length 0 (AZ r).1 []=_;rw [j3 []]
 rcases j4 with ⟨j5,_⟩ | ⟨j5,j6,j7⟩
 ·rw [j5]
 ·have hh:=Tw L.length 0 _ h4 j j5;rw [hh] at j6;cases j6
theorem px {D:Rows} {j:Nat} (h:j<D.length):Ac D j∈D:=by
 unfold Ac;rw [zzk,zzn h];exact List.getElem_mem h
theorem nr {r:Rul} {L:Rows} (hc:DV r L=0) {j:Nat} (hj:j<(Co r L).length):RowF r (Ac (Co r L) j)∧(Dz (Ac (Co r L) j)=0∨(1≤Dz (Ac (Co r L) j)∧Dz (Ac (Co r L) j)≤r.side)):=by
 have:=px hj;rw [dp hc] at this;have e:=dp hc;rw [e] at hj ⊢;exact kg hc L.length (Nat.le_refl _) _ this
theorem kN {r:Rul} {L:Rows} {k:Nat} (hc:DV r L=0) (hk:k<opn L L.length):∀ n,n≤(D3 L k).length→∀ p,p∈BR (D3 L k) n→1≤p∧p≤r.side
 | 0,_,p,hp=>absurd hp List.not_mem_nil
 | n+1,hn,p,hp=>by
  have l4:=(JQ hc).2.2.1;have ih:=kN hc hk n (by omega);have sl:=gf (L:=L) (by omega) hk;have sg:=seg (L:=L) (by omega) hk;have ei:evR (D3 L k) n=evR L (CA L k+n):=nn L n (by omega);have hi:=qS hc (a:=CA L k+n) (by have:=sg.le;omega);unfold BR at hp;rw [ei] at hp;cases h2:(evR L (CA L k+n)).kind==2 with
  | true =>
   rw [h2,cond_true] at hp;have o:=hi.op (beq_iff_eq.1 h2)
   rcases Jr.1 hp with hp | rfl
   ·rcases Jr.1 hp with hp | rfl
    ·exact ih p hp
    ·exact o.1
   ·exact o.2
  | false =>
   rw [h2,cond_false] at hp;cases h5:(evR L (CA L k+n)).kind==5 with
   | true =>
    rw [h5,cond_true] at hp
    rcases Jr.1 hp with hp | rfl
    ·exact ih p hp
    ·exact hi.en (beq_iff_eq.1 h5)
   | false =>
    rw [h5,cond_false] at hp;exact ih p hp
theorem qg {r:Rul} {L:Rows} {k:Nat} (hc:DV r L=0) (hk:k<opn L L.length) (h0:0≤r.side) {p:Int}:p∈Nb (BR (D3 L k) (D3 L k).length) r.side.toNat↔1≤p∧p≤r.side:=by
 rw [ZN];constructor
 ·rintro (h | h)
  ·exact kN hc hk _ (Nat.le_refl _) p h
  ·omega
 ·intro h;exact .inr (by omega)
theorem Za {o : List Int} {p : Int} (hn : o.Nodup) (h : p ∈ o) :
    (∀ (F:Int→Ln) (a:Int),(AL o F).set (Af p o) (A9 (Ac (AL o F) (Af p o)) 1 [.int a])=AL o (BS F p { F p with runs:=a })) ∧
    (∀ (F:Int→Ln) (a:Int),(AL o F).set (Af p o) (A9 (Ac (AL o F) (Af p o)) 2 [.int a])=AL o (BS F p { F p with balls:=a })) ∧
    (∀ (F:Int→Ln) (a:Int),(AL o F).set (Af p o) (A9 (Ac (AL o F) (Af p o)) 3 [.int a])=AL o (BS F p { F p with fours:=a })) ∧
    (∀ (F:Int→Ln) (a:Int),(AL o F).set (Af p o) (A9 (Ac (AL o F) (Af p o)) 4 [.int a])=AL o (BS F p { F p with sixes:=a })) ∧
    (∀ (F:Int→Ln) (a:Bool),(AL o F).set (Af p o) (A9 (Ac (AL o F) (Af p o)) 5 [.bool a])=AL o (BS F p { F p with out:=a })) ∧
    (∀ (F:Int→Ln) (a:Int),(AL o F).set (Af p o) (A9 (Ac (AL o F) (Af p o)) 6 [.int a])=AL o (BS F p { F p with how:=a })) ∧
    (∀ (F:Int→Ln) (a:Int),(AL o F).set (Af p o) (A9 (Ac (AL o F) (Af p o)) 7 [.int a])=AL o (BS F p { F p with bowler:=a })) ∧
    (∀ (F:Int→Ln) (a:Int),(AL o F).set (Af p o) (A9 (Ac (AL o F) (Af p o)) 8 [.int a])=AL o (BS F p { F p with fielder:=a })) ∧
    (∀ (F:Int→Ln),pvI (AG (AL o F) (Af p o) 1)=(F p).runs)∧(∀ (F:Int→Ln),pvI (AG (AL o F) (Af p o) 2)=(F p).balls) ∧
    (∀ (F:Int→Ln),pvI (AG (AL o F) (Af p o) 3)=(F p).fours)∧(∀ (F:Int→Ln),pvI (AG (AL o F) (Af p o) 4)=(F p).sixes):=by
  refine ⟨fun F a=>Eh hn h rfl,fun F a=>Eh hn h rfl,fun F a=>Eh hn h rfl,fun F a=>Eh hn h rfl,fun F a=>Eh hn h rfl,fun F a=>Eh hn h rfl,fun F a=>Eh hn h rfl,fun F a=>Eh hn h rfl,fun F=>?_,fun F=>?_,fun F=>?_,fun F=>?_⟩ <;>
  · unfold AG;rw [cT h];rfl
set_option maxHeartbeats 8000000 in
theorem dP {N:Nat} {r1 r2 r3 r4 r5 r6 r7 r9 r10 r11 r12:Int} {r8:Bool} {r0:ByteArray} {r13:Rows} {L:Rows} {k:Int} (hN:2097152<N) (hs:r0.size≤1048576) (h13:r13.length≤1048576) (hL:L.length≤1000000):DL N [.str r0,.int r1,.int r2,.int r3,.int r4,.int r5,.int r6,.int r7,.bool r8,.int r9,.int r10,.int r11,.int r12,.rows r13,.rows L,.int k]=some [.rows (Rr (⟨r0,r1,r2,r3,r4,r5,r6,r7,r8,r9,r10,r11,r12,r13⟩:Rul) L k).1,.int (Rr (⟨r0,r1,r2,r3,r4,r5,r6,r7,r8,r9,r10,r11,r12,r13⟩:Rul) L k).2]:=by
 show Gv (std (BL N) N) (xOf _)=_;generalize hres:(some [.rows (Rr (⟨r0,r1,r2,r3,r4,r5,r6,r7,r8,r9,r10,r11,r12,r13⟩:Rul) L k).1,.int (Rr (⟨r0,r1,r2,r3,r4,r5,r6,r7,r8,r9,r10,r11,r12,r13⟩:Rul) L k).2]:Option (List PV))=RR;have hl:L.length≤1048576:=by omega
 simp only [Gv,OX,Qu,NQ,Hv,RY,Lp,lq9,std,xOf,PXb,kE hN hs h13 hl,dD hN hl,cB hN hs h13 hl,fo,PXc];subst hres;simp only [Rr,ij];cases hc:DV (⟨r0,r1,r2,r3,r4,r5,r6,r7,r8,r9,r10,r11,r12,r13⟩:Rul) L==0 with
 | false=>simp only [PXb,Bool.not_false,hc]
 | true =>
  have pl:=lF (⟨r0,r1,r2,r3,r4,r5,r6,r7,r8,r9,r10,r11,r12,r13⟩:Rul) L;have c0:=beq_iff_eq.1 hc;simp only [PXb,Bool.not_true,PXp,XO];cases hb:iLt k 0||iLe (opn L L.length:Int) k with
  | true=>rfl
  | false =>
   simp only [Bool.or_eq_false_iff,iLt,iLe,decide_eq_false_iff_not] at hb;obtain ⟨K,rfl⟩:∃ K:Nat,k=(K:Int):=⟨k.toNat,by omega⟩;have hk:K<opn L L.length:=by omega
   have l4:=(JQ c0).2.2.1;have sg:=seg hl hk;have sgl:=sg.lt;have sge:=sg.le;have sl:=gf hl hk;have rk:=EX (JQ c0).2.1;have rs:2≤r1∧r1≤11:=rk.side;have rg:iRg (CA L K:Int) (CA L (K+1):Int) (L.length:Int)=true:=by simp only [iRg,decide_eq_true_eq];omega
   have om:=fun p=>qg (p:=p) c0 hk (show 0≤r1 by omega)
   have pin:=fun j (hj:j<(Co (⟨r0,r1,r2,r3,r4,r5,r6,r7,r8,r9,r10,r11,r12,r13⟩:Rul) L).length)=>nr c0 hj
   have ein:=fun j (hj:j<(D3 L K).length)=>qS c0 (a:=CA L K+j) (by omega)
   have esub:=fun j (hj:j<(D3 L K).length)=>nn L (a:=CA L K) (b:=CA L (K+1)) j (by omega)
   change ∀ j,j<(D3 L K).length→evR (D3 L K) j=_ at esub;have on:=UP (Pq (D3 L K) (D3 L K).length) r1.toNat;have ol:=ZT (BR (D3 L K) (D3 L K).length) r1.toNat;have oe:=UQ (D3 L K) (D3 L K).length;simp only [PXb,AY hk,sg.x0,sg.x1,rg,Int.toNat_natCast,beq_self_eq_true];have ex:List.drop (CA L K) (List.take (CA L (K+1)) L)=D3 L K:=rfl;rw [ex];have einE:=fun j (hj:j<(D3 L K).length)=>(esub j hj)▸(ein j hj)
   clear ein esub ex rg sg;generalize hE:D3 L K=E at *
   generalize Co (⟨r0,r1,r2,r3,r4,r5,r6,r7,r8,r9,r10,r11,r12,r13⟩:Rul) L=D at *
   have e1:E.length≤4000:=by omega
   have e2:=bg (r0:=r0) (r1:=r1) (r2:=r2) (r3:=r3) (r4:=r4) (r5:=r5) (r6:=r6) (r7:=r7) (r8:=r8) (r9:=r9) (r10:=r10) (r11:=r11) (r12:=r12) (r13:=r13) hN e1 (by omega) (by omega);refine Ec e2 ?_;simp only [PXb,cL];generalize hO:Nb (BR E E.length) r1.toNat=o at *
   refine Ab (Cu (len:=D.length) (fun i=>[.int (i:Int),.rows (AL o (dLn K D (F7 fun p=>CE E p E.length) i))]) [.rows (AL o (dLn K D (F7 fun p=>CE E p E.length) D.length))] ?_ ?_ N (by omega)) ?_
   ·intro self;simp only [PXb,PXc,PXn,AF,BE]
   ·intro i self hi;have wi:IntKind.i64.wrap ((i:Int)+1)=((i+1:Nat):Int):=Ck (show i≤1099511627776 by omega);obtain ⟨rf,vf⟩:=pin i hi;have st:=rf.striker;have so:pvI (AG D i 5)∈o:=(om _).2 st;have ix:=Ce (o:=o) (F:=dLn K D (F7 fun p=>CE E p E.length) i) (p:=pvI (AG D i 5)) (by omega) hN;rw [Je.2 so,cond_true] at ix;generalize hF:dLn (K:Int) D (F7 fun p=>CE E p E.length)=G at *
    have nx:G (i+1)=fun p=>cond (pvI (AG D i 1)==(K:Int)) (fg (Ac D i) p (G i p)) (G i p):=by rw [← hF];rfl
    simp only [PXb,A5 hi,AY hi,wi];cases hk1:pvI (AG D i 1)==(K:Int) with
    | false =>
     have:G (i+1)=G i:=by rw [nx,hk1];rfl
     rw [this];rfl
    | true =>
     rw [Bool.not_true,cond_false];refine Ec ix ?_;simp only [PXb,Bm,AY (FH so).1,Int.toNat_natCast];have cs:=Za on so;generalize hp:pvI (AG D i 5)=p at *
     generalize hx:Ac D i=x at *
     have xx:∀ c,AG D i c=AA x c:=fun c=>by unfold AG;rw [hx]
     simp only [xx] at hp ⊢;have b46:(pvI (AA x 12)==4)=true→(pvI (AA x 12)==6)=false:=fun h=>by rw [beq_iff_eq.1 h];rfl
     refine Ec (v:=[.rows (AL o (BS (G i) p { G i p with runs:=IntKind.i64.wrap ((G i p).runs+pvI (AA x 20)),balls:=cond (pvB (AA x 27)) (IntKind.i64.wrap ((G i p).balls+1)) (G i p).balls }))]) ?_ ?_
     ·cases pvB (AA x 27)<;>simp only [cond_true,cond_false,cs,G2,Nv]
     simp only [PXb];refine Ec (v:=[.rows (AL o (BS (G i) p (Qi x (G i p))))]) ?_ ?_
     ·unfold Qi oa;cases pvI (AA x 9)==1<;>cases pvI (AA x 10)==0<;>cases h4:pvI (AA x 12)==4<;>cases h6:pvI (AA x 12)==6 <;>
       simp only [Bool.and_true,Bool.and_false,Bool.true_and,Bool.false_and,cond_true,cond_false,cs,G2,Nv]
      rw [b46 h4] at h6;cases h6
     simp only [PXb];have vr:Dz x=cond (pvI (AA x 14)==0) 0 (cond (pvI (AA x 15)==1) p (cond (pvI (AA x 15)==2) (pvI (AA x 6)) 0)):=by unfold Dz;rw [hp]
     refine Ec (v:=[.int (Dz x)]) (by rw [vr];exact WB) ?_;simp only [PXb];have fin:∀ F:Int→Ln,(∀ q,1≤q→F q=fg x q (G i q))→AL o F=AL o (G (i+1)):=fun F hF=>lU fun q hq=>by
      rw [nx,hF q ((om q).1 hq).1,hk1];exact rfl
     have two:∀ q,BS (G i) p (Qi x (G i p)) q=cond (pvI (AA x 5)==q) (Qi x (G i q)) (G i q):=fun q=>by
      unfold BS;rw [hp];cases hq:q==p with
      | true=>rw [beq_iff_eq.1 hq,beq_self_eq_true]
      | false=>rw [show (p==q)=false from beq_eq_false_iff_ne.2 (fun e=>by rw [e,beq_self_eq_true] at hq;cases hq)];rfl
     rcases vf with v0 | v1
     ·have e:iLt 0 (Dz x)=false:=by rw [v0];rfl
      rw [e,cond_false,fin _ fun q hq=>by
       rw [two];unfold fg;rw [v0,show ((0:Int)==q)=false from beq_eq_false_iff_ne.2 (by omega),cond_false]]
     ·have e:iLt 0 (Dz x)=true:=by simp only [iLt,decide_eq_true_eq];omega
      have vo:Dz x∈o:=(om _).2 v1;have cv:=Za on vo;have iv:=Ce (o:=o) (F:=BS (G i) p (Qi x (G i p))) (p:=Dz x) (by omega) hN;rw [Je.2 vo,cond_true] at iv;rw [e,cond_true];refine Ec iv ?_;simp only [PXb,Bm,AY (FH vo).1,Int.toNat_natCast,cv,G2,Nv];have last:∀ (b:Bool) (bw:Int),b=pvB (AA x 28)→bw=cond b (pvI (AA x 4)) (BS (G i) p (Qi x (G i p)) (Dz x)).bowler→AL o (BS (BS (G i) p (Qi x (G i p))) (Dz x) { BS (G i) p (Qi x (G i p)) (Dz x) with out:=true,how:=pvI (AA x 14),fielder:=pvI (AA x 16),bowler:=bw })=AL o (G (i+1)):=fun b bw hb hw=>fin _ fun q hq=>by
       subst hb;subst hw;show BS _ (Dz x) (sW x (BS (G i) p (Qi x (G i p)) (Dz x))) q=_;unfold fg;rw [← two q];unfold BS;cases hq2:q==Dz x with
       | true=>rw [beq_iff_eq.1 hq2,beq_self_eq_true]
       | false=>rw [show (Dz x==q)=false from beq_eq_false_iff_ne.2 (fun e=>by rw [e,beq_self_eq_true] at hq2;cases hq2)];rfl
      cases hw:pvB (AA x 28) with
      | true =>
       rw [cond_true];exact congrArg (fun R=>self [Leaf.int ((i+1:Nat):Int),Leaf.rows R]) (last true _ hw.symm rfl)
      | false =>
       rw [cond_false];exact congrArg (fun R=>self [Leaf.int ((i+1:Nat):Int),Leaf.rows R]) (last false _ hw.symm rfl)
   ·simp only [PXb];generalize dLn (K:Int) D (F7 fun p=>CE E p E.length) D.length=F0 at *
    refine Ab (Cu (len:=E.length) (fun i=>[.int (i:Int),.rows (AL o (eLn E F0 i))]) [.rows (AL o (eLn E F0 E.length))] ?_ ?_ N (by omega)) rfl
    ·intro self;simp only [PXb,BE]
    ·intro i self hi;have wi:IntKind.i64.wrap ((i:Int)+1)=((i+1:Nat):Int):=Ck (show i≤1099511627776 by omega);have ei:=einE i hi;have kk:(evR E i).kind=pvI (AG E i 0):=rfl;have kp:(evR E i).player=pvI (AG E i 2):=rfl;have ky:(evR E i).yes=pvB (AG E i 4):=rfl;have nx:eLn E F0 (i+1)=fun p=>evL (evR E i) p (eLn E F0 i p):=rfl
     generalize eLn E F0 i=G at *
     simp only [PXb,A5 hi,AY hi,wi,← kk,← kp,← ky];rw [nx];have fin:∀ (h:Int),(∀ q,evL (evR E i) q (G q)=cond ((evR E i).player==q) { G q with out:=true,how:=h } (G q))→AL o (BS G (evR E i).player { G (evR E i).player with out:=true,how:=h })=AL o fun p=>evL (evR E i) p (G p):=fun h hq=>by
      congr 1
      funext q
      rw [hq];unfold BS;cases hq2:q==(evR E i).player with
      | true=>rw [beq_iff_eq.1 hq2,beq_self_eq_true]
      | false=>rw [show ((evR E i).player==q)=false from beq_eq_false_iff_ne.2 (fun e=>by rw [e,beq_self_eq_true] at hq2;cases hq2)];rfl
     cases h5:(evR E i).kind==5&&(evR E i).yes with
     | true =>
      simp only [zzj] at h5;have po:(evR E i).player∈o:=(om _).2 (ei.en (beq_iff_eq.1 h5.1));have cs:=Za on po;have ix:=Ce (o:=o) (F:=G) (p:=(evR E i).player) (by omega) hN;rw [Je.2 po,cond_true] at ix;rw [cond_true];refine Ec ix ?_;simp only [PXb,Bm,AY (FH po).1,Int.toNat_natCast,cs,G2,Nv];rw [← fin 9 fun q=>by unfold evL;rw [h5.1,h5.2];rfl]
     | false =>
      cases h6:(evR E i).kind==6 && !(evR E i).yes with
      | true =>
       have h6':=h6;simp only [zzj] at h6';have po:(evR E i).player∈o:=(om _).2 (ei.re (beq_iff_eq.1 h6'.1));have cs:=Za on po;have ix:=Ce (o:=o) (F:=G) (p:=(evR E i).player) (by omega) hN;rw [Je.2 po,cond_true] at ix;rw [cond_false,cond_true];refine Ec ix ?_;simp only [PXb,Bm,AY (FH po).1,Int.toNat_natCast,cs,G2,Nv];rw [← fin 10 fun q=>by unfold evL;rw [h5,h6];rfl]
      | false =>
       rw [cond_false,cond_false];have:(fun p=>evL (evR E i) p (G p))=G:=funext fun q=>by unfold evL;rw [h5,h6];rfl
       rw [this]
theorem Sl {N:Nat} {L:Rows} (hN:2097152<N) (h:L.length≤1048576):CZ N [.rows L,.rows L]=some [.bool true]:=by
 show DQ (std (Iz N) N) (xOf _)=_;simp only [DQ,lq9,std,xOf,PXb];simp only [PXb,PXc,PXn,AF,beq_self_eq_true,Bool.not_true];refine Ab (Cu (len:=L.length) (fun i=>[.int (i:Int)]) [.int 1] ?_ ?_ N (by omega)) rfl
 ·intro self;simp only [PXb,PXc,PXn,AF,BE]
 ·intro i self hi;simp only [PXb,PXc,PXn,AF,Ck (show i≤1099511627776 by omega),A5 hi,AY hi,beq_self_eq_true,Bool.not_true]
def fL:Rows:=[[.int 1,.int 1,.int 1,.int 0,.int 0,.bool false,.int 0,.int 0,.int 0,.bool true],[.int 2,.int 0,.int 1,.int 0,.int 0,.bool true,.int 1,.int 1,.int 0,.bool true]]
def fG:ByteArray:=⟨#[65,78,78,32,40,99,41,58,32,49,32,40,49,41,32,78,79,84,32,79,85,84,10,66,79,66,32,40,107,41,58,32,48,32,40,49,41,32,66,79,87,76,69,68,32,98,32,67,76,69,79,10]⟩
theorem sG:EW 4194304 [.rows fL,.str ⟨#[79,65,75,83]⟩,.rows [[.str ⟨#[65,78,78]⟩],[.str ⟨#[66,79,66]⟩]],.int 1,.int 2,.str ⟨#[69,76,77,83]⟩,.rows [[.str ⟨#[67,76,69,79]⟩],[.str ⟨#[68,65,78]⟩]],.int 2,.int 2]=some [.str fG,.int 0]:=by kernel_rfl
theorem sM:Rr Xd XX 0=(fL,0):=by kernel_rfl
set_option maxHeartbeats 2000000 in
theorem jo:KM 4194304 []=some [.bool true]:=by
 have hs:Xd.name.size≤1048576:=by decide
 have hl:XX.length≤1000000:=by decide
 have hN:2097152<4194304:=by omega
 have k1:DL 4194304 (Xd.ls++[.rows XX,.int 0])=some [.rows (Rr Xd XX 0).1,.int (Rr Xd XX 0).2]:=dP hN hs (Nat.zero_le _) hl;rw [sM] at k1;have k2:=sG;have k3:=Sl (L:=fL) hN (by decide);obtain ⟨C,hC⟩:∃ C,C=fL:=⟨_,rfl⟩;obtain ⟨X,hX⟩:∃ X,X=fG:=⟨_,rfl⟩;have k4:∀ O:ByteArray,O=fG→(X.toList==O.toList)=true:=fun O h=>by rw [h,hX];exact beq_self_eq_true _
 rw [← hC] at k1 k2 k3;rw [← hX] at k2;show OD (std (D4 4194304) 4194304) (xOf [])=_;simp only [OD,RI,LO,QR,Tk,Vs,lq9,std,xOf,PXb,tT,rY];refine Ec k1 ?_;simp only [PXb,PXc,PXn,AF,Nat.reduceAdd];refine Ec k2 ?_;simp only [PXb,PXc,PXn,AF,Nat.reduceAdd,beq_self_eq_true];refine Ec (v:=[.bool true]) (by rw [hC] at k3 ⊢;exact k3) ?_;simp only [PXb,PXc,PXn,AF,Nat.reduceAdd];rw [hX];exact congrArg (fun b=>some [PV.bool b]) (beq_self_eq_true fG.toList)
end Go.Px
end
