/- Part 15. -/
import Derived.Test.YtejjoflbpnjohaaGreatDoorPart14
import Derived.Shelf.Strconv.Itoa3
import Derived.Shelf.LaysM
import Derived.Shelf.Strconv.Itoa4
import Derived.Test.YtejjoflbpnjohaaGreatDoorProg
set_option linter.unusedVariables false
set_option linter.unusedSimpArgs false
section
namespace Go.Px
set_option maxRecDepth 100000
def tM (B:Rows) (p:Int):Bool:=atI B (ix p) 0==2
def tN (e:Ev) (p:Int):Bool:=(e.kind==5&&e.yes&&e.player==p)||(e.kind==6 && !e.yes&&e.player==p)
def ta (X:Rows) (q:Int):Bool:=X.any fun x=>Cy x==q
def ss (L:Rows) (k:Nat) (q:Int):Nat→Bool
 | 0=>false
 | n+1=>ss L k q n||(Nat.beq (opn L (n+1)) (k+1)&&tN (evR L n) q)
structure DeadN (r:Rul) (L:Rows) (k n:Nat):Prop where
 shp:Shp (AR (stM L n 0 (AO r).1)).batters
 len:((AR (stM L n 0 (AO r).1)).batters.length:Int)=r.side
 wk:V4 (AR (stM L n 0 (AO r).1)).batters=smi L YM k n
 dead:∀ q,inR q (AR (stM L n 0 (AO r).1)).batters.length=true→tM (AR (stM L n 0 (AO r).1)).batters q=(ta (GG r L k n) q||ss L k q n)
def sX (f:List PV→Int):Rows→Int
 | []=>0
 | x::D=>f x+sX f D
structure RowG (n:Int) (x:List PV):Prop where
 over:∃ o:Nat,o≤1000∧pvI (AA x 2)=(o:Int)
 sector:∃ s:Nat,s≤8∧pvI (AA x 19)=(s:Int)
 striker:1≤pvI (AA x 5)∧pvI (AA x 5)≤n
 bat:0≤pvI (AA x 20)∧pvI (AA x 20)≤62
 tot:0≤Dv (ro x)∧Dv (ro x)≤62
def pre (xs:List Int):Nat→Int
 | 0=>0
 | j+1=>pre xs j+xs.getD j 0
def uA (x:List PV):Int:=pvI (AA x 20)
theorem pi {r:Rul} {L:Rows} {k:Nat} (hc:Bd r L=0) (hk:k<opn L L.length):Qc r L (k:Int)=(GG r L k L.length,0):=by
 unfold Qc;have e:(iLt (k:Int) 0||iLe (opn L L.length:Int) (k:Int))=false:=by
  simp only [Bool.or_eq_false_iff,iLt,iLe,decide_eq_false_iff_not];omega
 rw [hc,e,Zo hc];rfl
def BW (g:Int→Int):List Int→Int
 | []=>0
 | b::B=>g b+BW g B
theorem Wl:∀ B,BW (fun _=>0) B=0
 | []=>rfl
 | b::B=>by
  have:=Wl B;show 0+BW (fun _=>0) B=0;omega
theorem Y5 (g h:Int→Int):∀ B,BW (fun b=>g b+h b) B=BW g B+BW h B
 | []=>rfl
 | b::B=>by
  have:=Y5 g h B;show g b+h b+BW (fun b=>g b+h b) B=g b+BW g B+(h b+BW h B);omega
theorem MI {g h:Int→Int}:∀ {B:List Int},(∀ b,b∈B→g b=h b)→BW g B=BW h B
 | [],_=>rfl
 | b::B,e=>by
  have:=MI (B:=B) (fun y hy=>e y (zzm _ hy));have h1:=e b zzl;show g b+BW g B=h b+BW h B;omega
theorem WU {c v:Int}:∀ {B:List Int},c∉B→BW (fun b=>cond (c==b) v 0) B=0
 | [],_=>rfl
 | b::B,h=>by
  have ih:=WU (c:=c) (v:=v) (B:=B) (fun hm=>h (zzm _ hm));show cond (c==b) v 0+BW (fun b=>cond (c==b) v 0) B=0;rw [ih,beq_eq_false_iff_ne.2 (fun e=>h (by rw [e];exact zzl))];rfl
theorem YV {c v:Int}:∀ {B:List Int},B.Nodup→c∈B→BW (fun b=>cond (c==b) v 0) B=v
 | [],_,h=>absurd h List.not_mem_nil
 | b::B,hn,h=>by
  obtain ⟨n1,n2⟩:=List.nodup_cons.1 hn;show cond (c==b) v 0+BW (fun b=>cond (c==b) v 0) B=v
  by_cases e:c=b
  ·subst e;rw [WU n1,beq_self_eq_true];show v+0=v;omega
  ·have hc:c∈B:=(List.mem_cons.1 h).resolve_left e;rw [YV n2 hc,beq_eq_false_iff_ne.2 e];show 0+v=v;omega
theorem kN {P:Int→Bool} {o:List Int} (hn:o.Nodup):∀ n:Nat,(∀ i:Nat,i<n→((i:Int)+1)∈o)→BW (fun p=>cond ((iLe 1 p&&iLe p (n:Int))&&P p) 1 0) o=B9 (fun i=>P ((i:Int)+1)) n
 | 0,_=>by
  rw [MI (h:=fun _=>0) (fun b _=>by
   have:(iLe 1 b&&iLe b ((0:Nat):Int))=false:=by
    rw [Bool.eq_false_iff];intro h;simp only [iLe,zzj,decide_eq_true_eq] at h;omega
   rw [this];rfl),Wl]
  rfl
 | n+1,h=>by
  have ih:=kN (P:=P) hn n (fun i hi=>h i (by omega));have one:=YV (v:=cond (P ((n:Int)+1)) 1 0) hn (h n (by omega));have key:=Y5 (fun p=>cond ((iLe 1 p&&iLe p (n:Int))&&P p) 1 0) (fun b=>cond (((n:Int)+1)==b) (cond (P ((n:Int)+1)) 1 0) 0) o;rw [ih,one] at key;rw [MI (h:=fun b=>cond ((iLe 1 b&&iLe b (n:Int))&&P b) 1 0+cond (((n:Int)+1)==b) (cond (P ((n:Int)+1)) 1 0) 0) (fun b _=>?_),key]
  ·show _=cond (P ((n:Int)+1)) (B9 _ n+1) (B9 _ n);cases P ((n:Int)+1)<;>simp
  ·by_cases e:(n:Int)+1=b
   ·subst e;have h1:iLe 1 ((n:Int)+1)=true:=by simp only [iLe,decide_eq_true_eq];omega
    have h2:iLe ((n:Int)+1) (n:Int)=false:=by simp only [iLe,decide_eq_false_iff_not];omega
    have h3:iLe ((n:Int)+1) ((n+1:Nat):Int)=true:=by simp only [iLe,decide_eq_true_eq];omega
    rw [h1,h2,h3,beq_self_eq_true];cases P ((n:Int)+1)<;>rfl
   ·have h1:iLe b ((n+1:Nat):Int)=iLe b (n:Int):=by
     unfold iLe;rw [Bool.eq_iff_iff,decide_eq_true_eq,decide_eq_true_eq];omega
    rw [h1,beq_false_of_ne e];cases ((iLe 1 b&&iLe b (n:Int))&&P b)<;>rfl
def plL (r:Rul) (L:Rows) (k:Nat) (p:Int):Ln:=XK (CJ L k) p (Ii (GG r L k L.length) p (GG r L k L.length).length) (CJ L k).length
def Cz (r:Rul) (L:Rows) (k:Nat):List Int:=MP (BO (CJ L k) (CJ L k).length) r.side.toNat
theorem kC {r:Rul} {L:Rows} {k:Nat} (hc:Bd r L=0) (hk:k<opn L L.length):Ky r L (k:Int)=(AK (Cz r L k) (plL r L k),0):=by
 unfold Ky;rw [pi hc hk];show (AK (Cz r L k) _,0)=_;refine congrArg (fun X=>(AK (Cz r L k) X,(0:Int))) (funext fun p=>?_);have e:=rQ (k:Int) (B6 r L) (CJ L k) p;rw [Zo hc] at e;exact e.symm
def tu (p:Int) (x:List PV):Int:=cond (pvI (AA x 5)==p) (uA x) 0
structure LnF (p:Int) (X:Rows) (i:Nat) (l:Ln):Prop where
 runs:l.runs=sX (tu p) (X.take i)
 rb:0≤l.runs∧l.runs≤62 * (i:Int)
 fb:0≤l.fours∧l.fours≤(i:Int)
 sb:0≤l.sixes∧l.sixes≤(i:Int)
 bnd:4 * l.fours+6 * l.sixes≤l.runs
 how:l.out = !(l.how==0)
theorem kX {r:Rul} {L:Rows} {k:Nat} (hc:Bd r L=0) (hk:k<opn L L.length):((Cz r L k).length:Int)=r.side:=by
 have rs:=(DV (DH hc).2.1).side;have on:(Cz r L k).Nodup:=MS (Js (CJ L k) (CJ L k).length) r.side.toNat;have om:=fun p=>XA (p:=p) hc hk (show 0≤r.side by omega)
 have sc:=kN (P:=fun _=>true) on r.side.toNat (fun i hi=>(om _).2 (by omega));have all:∀ B:List Int,BW (fun _=>1) B=(B.length:Int):=fun B=>by
  induction B with
  | nil=>rfl
  | cons b B ih=>show 1+BW (fun _=>1) B=((B.length+1:Nat):Int);omega
 have one:∀ n,B9 (fun _=>true) n=(n:Int):=fun n=>by
  induction n with
  | zero=>rfl
  | succ n ih=>show B9 (fun _=>true) n+1=_;omega
 rw [one,MI (h:=fun _=>1) (fun p hp=>by
  have:=(om p).1 hp;have h1:iLe 1 p=true:=by simp only [iLe,decide_eq_true_eq];omega
  have h2:iLe p (r.side.toNat:Int)=true:=by simp only [iLe,decide_eq_true_eq];omega
  rw [h1,h2];rfl),all] at sc
 omega
theorem dq (g:Int→Int) {o:List Int} {j:Nat} (h:j<o.length):BW g (o.take (j+1))=BW g (o.take j)+g (o.getD j 0):=by
 have app:∀ A B:List Int,BW g (A++B)=BW g A+BW g B:=fun A B=>by
  induction A with
  | nil=>show BW g B=0+_;omega
  | cons a A ih=>show g a+BW g (A++B)=g a+BW g A+_;omega
 rw [List.take_add_one,app,zzk,zzn h];show _+(g o[j]+0)=_;show _=_+g o[j];omega
theorem mU {g:Int→Int} {c:Int} {o:List Int} (h:∀ p,p∈o→0≤g p∧g p≤c):∀ j,j≤o.length→0≤BW g (o.take j)∧BW g (o.take j)≤c * (j:Int)
 | 0,_=>by show (0:Int)≤0∧(0:Int)≤c * ((0:Nat):Int);omega
 | j+1,hj=>by
  have ih:=mU h j (by omega);rw [dq g (by omega)];have:=h (o.getD j 0) (by rw [zzk,zzn (show j<o.length by omega)];exact List.getElem_mem _);have e:c * ((j+1:Nat):Int)=c * (j:Int)+c:=by rw [show ((j+1:Nat):Int)=(j:Int)+1 by omega,Int.mul_add,Int.mul_one]
  rw [e];omega
theorem SX {N:Nat} {L:Rows} (hN:2097152<N) (h:L.length≤1048576):Ca N [.rows L,.rows L]=some [.bool true]:=by
 show Db (std (JC N) N) (xOf _)=_;simp only [Db,lq9,std,xOf,PXb];simp only [PXb,PXc,PXn,AH,beq_self_eq_true,Bool.not_true];refine Ae (C8 (len:=L.length) (fun i=>[.int (i:Int)]) [.int 1] ?_ ?_ N (by omega)) rfl
 ·intro self;simp only [PXb,PXc,PXn,AH,BC]
 ·intro i self hi;simp only [PXb,PXc,PXn,AH,DF (show i≤1099511627776 by omega),A5 hi,Ab hi,beq_self_eq_true,Bool.not_true]
def ek:Rows:=[[.int 1,.int 1,.int 1,.int 0,.int 0,.bool false,.int 0,.int 0,.int 0,.bool true],[.int 2,.int 0,.int 1,.int 0,.int 0,.bool true,.int 1,.int 1,.int 0,.bool true]]
def ec:ByteArray:=⟨#[65,78,78,32,40,99,41,58,32,49,32,40,49,41,32,78,79,84,32,79,85,84,10,66,79,66,32,40,107,41,58,32,48,32,40,49,41,32,66,79,87,76,69,68,32,98,32,67,76,69,79,10]⟩
theorem sT:El 4194304 [.rows ek,.str ⟨#[79,65,75,83]⟩,.rows [[.str ⟨#[65,78,78]⟩],[.str ⟨#[66,79,66]⟩]],.int 1,.int 2,.str ⟨#[69,76,77,83]⟩,.rows [[.str ⟨#[67,76,69,79]⟩],[.str ⟨#[68,65,78]⟩]],.int 2,.int 2]=some [.str ec,.int 0]:=by kernel_rfl
theorem su:Ky XB W3 0=(ek,0):=by kernel_rfl
set_option maxHeartbeats 2000000 in
theorem jK:Ke 4194304 []=some [.bool true]:=by
 have hs:XB.name.size≤1048576:=by decide
 have hl:W3.length≤1000000:=by decide
 have hN:2097152<4194304:=by omega
 have k1:CQ 4194304 (XB.ls++[.rows W3,.int 0])=some [.rows (Ky XB W3 0).1,.int (Ky XB W3 0).2]:=Gv hN hs (Nat.zero_le _) hl;rw [su] at k1;have k2:=sT;have k3:=SX (L:=ek) hN (by decide);obtain ⟨C,hC⟩:∃ C,C=ek:=⟨_,rfl⟩;obtain ⟨X,hX⟩:∃ X,X=ec:=⟨_,rfl⟩;have k4:∀ O:ByteArray,O=ec→(X.toList==O.toList)=true:=fun O h=>by rw [h,hX];exact beq_self_eq_true _
 rw [← hC] at k1 k2 k3;rw [← hX] at k2;show Nv (std (EE 4194304) 4194304) (xOf [])=_;simp only [Nv,Qj,LF,RG,TN,VS,lq9,std,xOf,PXb,tW,qm];refine Gm k1 ?_;simp only [PXb,PXc,PXn,AH,Nat.reduceAdd];refine Gm k2 ?_;simp only [PXb,PXc,PXn,AH,Nat.reduceAdd,beq_self_eq_true];refine Gm (v:=[.bool true]) (by rw [hC] at k3 ⊢;exact k3) ?_;simp only [PXb,PXc,PXn,AH,Nat.reduceAdd];rw [hX];exact congrArg (fun b=>some [PV.bool b]) (beq_self_eq_true ec.toList)
def FF (L:Rows) (k:Nat) (p:Int) (l:Ln):Nat→Ln
 | 0=>l
 | n+1=>cond (Nat.beq (opn L (n+1)) (k+1)) (evX (evR L n) p (FF L k p l n)) (FF L k p l n)
theorem dU {L:Rows} {k:Nat} {p:Int} {l:Ln}:∀ n,opn L n≤k→FF L k p l n=l
 | 0,_=>rfl
 | n+1,h=>by
  have:=Qa L n;unfold FF;rw [S7 (show ¬ opn L (n+1)=k+1 by omega),cond_false];exact dU n (by omega)
theorem dk {L:Rows} {k:Nat} {p:Int} {l:Ln} (sg:Seg L k):∀ i,A6 L k+i≤A6 L (k+1)→FF L k p l (A6 L k+i)=XK (CJ L k) p l i
 | 0,_=>dU _ (by rw [Nat.add_zero,sg.o0];exact Nat.le_refl _)
 | i+1,h=>by
  show cond (Nat.beq (opn L (A6 L k+i+1)) (k+1)) (evX (evR L (A6 L k+i)) p (FF L k p l (A6 L k+i))) (FF L k p l (A6 L k+i))=_;rw [dk sg i (by omega),sg.mid (A6 L k+i) (by omega) (by omega),TQ,cond_true];have:evR (CJ L k) i=evR L (A6 L k+i):=Zx L i (by omega);show _=evX (evR (CJ L k) i) p _;rw [this]
theorem Xk {L:Rows} {k p:Nat} {q:Int} {l:Ln} (h:opn L p=k+1) (hn:p=L.length∨((evR L p).kind==2)=true):∀ c,p+c≤L.length→FF L k q l (p+c)=FF L k q l p
 | 0,_=>rfl
 | c+1,hc=>by
  rw [show p+(c+1)=p+c+1 by omega];show cond (Nat.beq (opn L (p+c+1)) (k+1)) _ (FF L k q l (p+c))=_
  rcases hn with hn | hn
  ·omega
  ·have:=ED L (show p+1≤p+c+1 by omega);rw [Qk hn] at this;rw [S7 (by omega),cond_false];exact Xk h (.inr hn) c (by omega)
theorem mo {r:Rul} {L:Rows} {k:Nat} (hc:Bd r L=0) (hk:k<opn L L.length) (p:Int):plL r L k p=FF L k p (Ii (GG r L k L.length) p (GG r L k L.length).length) L.length:=by
 have l4:=(DH hc).2.2.1;have sg:=seg (L:=L) (by omega) hk;have af:=mG (L:=L) (by omega) hk;have sl:=YR (L:=L) (by omega) hk;have sge:=sg.le;have slt:=sg.lt;unfold plL;generalize Ii (GG r L k L.length) p (GG r L k L.length).length=l;have e1:=Xk (q:=p) (l:=l) sg.o1 af (L.length - A6 L (k+1)) (by omega);rw [show A6 L (k+1)+(L.length - A6 L (k+1))=L.length by omega] at e1;have e2:=dk (p:=p) (l:=l) sg (CJ L k).length (by omega);rw [e1,← e2,sl,show A6 L k+(A6 L (k+1) - A6 L k)=A6 L (k+1) by omega]
theorem UI {X:Rows} {m i:Nat} (h:i<m):evR (AN X (m:Int)) i=evR X i:=by
 have:=Zx X (a:=0) (b:=m) i (by omega);rw [Nat.zero_add] at this;exact this
theorem LW {X:Rows} {m:Nat}:∀ i,i≤m→opn (AN X (m:Int)) i=opn X i
 | 0,_=>rfl
 | i+1,h=>by
  show opn (AN X (m:Int)) i+cond ((evR (AN X (m:Int)) i).kind==2) 1 0=opn X i+cond ((evR X i).kind==2) 1 0;rw [LW i (by omega),UI (by omega)]
theorem WQ {X:Rows} {m:Nat} (z:Mat):∀ i,i≤m→stM (AN X (m:Int)) i 0 z=stM X i 0 z
 | 0,_=>rfl
 | i+1,h=>by
  rw [RB,RB,WQ z i (by omega),Nat.zero_add,UI (by omega)]
theorem SF {r:Rul} {X:Rows} {m k:Nat}:∀ i,i≤m→GG r (AN X (m:Int)) k i=GG r X k i
 | 0,_=>rfl
 | i+1,h=>by
  show cond ((evR (AN X (m:Int)) i).kind==4&&Nat.beq (opn (AN X (m:Int)) (i+1)) (k+1)) (GG r (AN X (m:Int)) k i++[Dz (i:Int) (stM (AN X (m:Int)) i 0 (AO r).1) (stM (AN X (m:Int)) (i+1) 0 (AO r).1) (evR (AN X (m:Int)) i).ball]) (GG r (AN X (m:Int)) k i)=_;rw [SF i (by omega),UI (by omega),LW (i+1) h,WQ _ i (by omega),WQ _ (i+1) h];rfl
theorem N4 {X:Rows} {m k:Nat} {p:Int} {l:Ln}:∀ i,i≤m→FF (AN X (m:Int)) k p l i=FF X k p l i
 | 0,_=>rfl
 | i+1,h=>by
  show cond (Nat.beq (opn (AN X (m:Int)) (i+1)) (k+1)) (evX (evR (AN X (m:Int)) i) p (FF (AN X (m:Int)) k p l i)) (FF (AN X (m:Int)) k p l i)=_;rw [N4 i (by omega),UI (by omega),LW (i+1) h];rfl
theorem jf {X:Rows} {m:Nat} (h:X.length=m+1):(AN X (m:Int)).length=m:=by
 show (List.drop 0 (List.take m X)).length=m;rw [List.drop_zero,List.length_take];omega
theorem oo {e:Ev} (p:Int) (l:Ln) (h:(e.kind==4)=true):evX e p l=l:=by
 unfold evX;rw [beq_iff_eq.1 h];rfl
theorem pW {e:Ev} {p:Int} (l:Ln) (h1:p≠e.player) (h2:p≠e.other):evX e p l=l:=by
 unfold evX;rw [beq_false_of_ne (fun h=>h1 h.symm),beq_false_of_ne (fun h=>h2 h.symm),Bool.or_false,Bool.and_false,Bool.and_false,Bool.and_false];rfl
theorem mO {x:List PV} {p:Int} (l:Ln) (h1:p≠Cy x) (h2:p≠pvI (AA x 5)):II x p l=l:=by
 unfold II;rw [beq_false_of_ne (fun h=>h1 h.symm),beq_false_of_ne (fun h=>h2 h.symm)];rfl
theorem td {r : Rul} {X : Rows} {m k : Nat} (hc : Bd r X = 0) (hm : X.length = m + 1) (hk : k < opn (AN X (m : Int)) m) :
    ∃ a b:Int,∀ p,(p≠a→p≠b→plL r X k p=plL r (AN X (m:Int)) k p)∧(¬ opn X (m+1)=k+1→plL r X k p=plL r (AN X (m:Int)) k p):=by
  have c2:=(YB hc (show m≤X.length by omega)).1;have fl:=jf hm;have ok:k<opn X X.length:=by
    have:=ED X (show m≤X.length by omega);rw [LW m (Nat.le_refl _)] at hk;omega
  have e1:=fun p=>mo hc ok p
  have e2:=fun p=>mo (k:=k) c2 (by rw [fl];exact hk) p
  rw [hm] at e1;rw [fl] at e2;have bX:GG r X k (m+1)=cond ((evR X m).kind==4&&Nat.beq (opn X (m+1)) (k+1)) (GG r X k m++[Dz (m:Int) (stM X m 0 (AO r).1) (stM X (m+1) 0 (AO r).1) (evR X m).ball]) (GG r X k m):=rfl;have aX:∀ p l,FF X k p l (m+1)=cond (Nat.beq (opn X (m+1)) (k+1)) (evX (evR X m) p (FF X k p l m)) (FF X k p l m):=fun p l=>rfl
  cases hb:Nat.beq (opn X (m+1)) (k+1) with
  | false =>
    rw [hb,Bool.and_false,cond_false] at bX;refine ⟨0,0,fun p=>?_⟩;have:plL r X k p=plL r (AN X (m:Int)) k p:=by rw [e1,e2,aX,hb,cond_false,bX,SF m (Nat.le_refl _),N4 m (Nat.le_refl _)]
    exact ⟨fun _ _=>this,fun _=>this⟩
  | true =>
    have hbe:=Nat.eq_of_beq_eq_true hb;cases h4:(evR X m).kind==4 with
    | false =>
      rw [h4,Bool.false_and,cond_false] at bX;refine ⟨(evR X m).player,(evR X m).other,fun p=>⟨fun h1 h2=>?_,fun h=>absurd hbe h⟩⟩;rw [e1,e2,aX,hb,cond_true,bX,SF m (Nat.le_refl _),N4 m (Nat.le_refl _),pW _ h1 h2]
    | true =>
      rw [h4,hb,Bool.true_and,cond_true] at bX;refine ⟨Cy (Dz (m:Int) (stM X m 0 (AO r).1) (stM X (m+1) 0 (AO r).1) (evR X m).ball),pvI (AA (Dz (m:Int) (stM X m 0 (AO r).1) (stM X (m+1) 0 (AO r).1) (evR X m).ball) 5),fun p=>⟨fun h1 h2=>?_,fun h=>absurd hbe h⟩⟩;rw [e1,e2,aX,hb,cond_true,oo _ _ h4,bX,da,mO _ h1 h2,SF m (Nat.le_refl _),N4 m (Nat.le_refl _)]
def Jx (x y:List PV):Bool:=pvI (AA x 0)==pvI (AA y 0)&&(pvI (AA x 1)==pvI (AA y 1)&&(pvI (AA x 2)==pvI (AA y 2)&&(pvI (AA x 3)==pvI (AA y 3)&&(pvI (AA x 4)==pvI (AA y 4)&&(pvB (AA x 5)==pvB (AA y 5)&&(pvI (AA x 6)==pvI (AA y 6)&&(pvI (AA x 7)==pvI (AA y 7)&&(pvI (AA x 8)==pvI (AA y 8)&&pvB (AA x 9)==pvB (AA y 9)))))))))
theorem ke (x:List PV):Jx x x=true:=by
 unfold Jx;simp
def FA (B:Rows) (x:List PV):Bool:=Bg (fun i=>Jx x (AL B i)) B.length 0
def cC (B:Rows) (x:List PV):Nat→Nat→Int
 | 0,_ => -1
 | k+1,i=>cond (Jx x (AL B i)) (i:Int) (cC B x k (i+1))
theorem js (B:Rows) (x:List PV):∀ k i,iLe 0 (cC B x k i)=Bg (fun i=>Jx x (AL B i)) k i
 | 0,_=>rfl
 | k+1,i=>by
  show iLe 0 (cond (Jx x (AL B i)) (i:Int) (cC B x k (i+1)))=_;rw [Bo,← js B x k (i+1)];cases Jx x (AL B i) with
  | true =>
   rw [cond_true,Bool.true_or];simp only [iLe,decide_eq_true_eq];omega
  | false=>rw [cond_false,Bool.false_or]
theorem iM (B:Rows) (x:List PV):∀ k i,(match Bt (fun j=>cond (Jx x (AL B j)) (some [.int (j:Int)]) none) k i with | some r=>r | none=>[.int (-1)])=[.int (cC B x k i)]
 | 0,_=>rfl
 | k+1,i=>by
  show _=[PV.int (cond (Jx x (AL B i)) (i:Int) (cC B x k (i+1)))];simp only [Bt];cases Jx x (AL B i) with
  | true=>rfl
  | false=>exact iM B x k (i+1)
set_option maxHeartbeats 2000000 in
theorem Pw {N:Nat} (hN:2097152<N) {B:Rows} (hl:B.length≤1048576) {p:Int} {l:Ln}:CF N (.rows B::lnR p l)=some [.bool (FA B (lnR p l))]:=by
 have I:Cb N (.rows B::lnR p l)=some [.int (cC B (lnR p l) B.length 0)]:=by
  show Dc (std (JB N) N) (xOf _)=_;unfold lnR;simp only [Dc,lq9,std,xOf,PXb];refine Ae (Ct (len:=B.length) (fun j=>cond (Jx (lnR p l) (AL B j)) (some [.int (j:Int)]) none) ?_ ?_ B.length 0 N (by omega) (by omega)) ?_
  ·intro self;simp only [PXb,BC]
  ·intro i self hi;have e:Jx (lnR p l) (AL B i)=(p==pvI (AF B i 0)&&(l.runs==pvI (AF B i 1)&&(l.balls==pvI (AF B i 2)&&(l.fours==pvI (AF B i 3)&&(l.sixes==pvI (AF B i 4)&&(l.out==pvB (AF B i 5)&&(l.how==pvI (AF B i 6)&&(l.bowler==pvI (AF B i 7)&&(l.fielder==pvI (AF B i 8)&&l.batted==pvB (AF B i 9)))))))))):=rfl;have wi:IntKind.i64.wrap ((i:Int)+1)=(i:Int)+1:=CE (by omega) (by omega);simp only [PXb,A5 hi,Ab hi,wi,Int.toNat_natCast,e];cases (p==pvI (AF B i 0)&&(l.runs==pvI (AF B i 1)&&(l.balls==pvI (AF B i 2)&&(l.fours==pvI (AF B i 3)&&(l.sixes==pvI (AF B i 4)&&(l.out==pvB (AF B i 5)&&(l.how==pvI (AF B i 6)&&(l.bowler==pvI (AF B i 7)&&(l.fielder==pvI (AF B i 8)&&l.batted==pvB (AF B i 9))))))))))<;>rfl
  ·have fd:=iM B (lnR p l) B.length 0;unfold lnR at fd ⊢;cases hf:Bt (fun j=>cond (Jx (lnR p l) (AL B j)) (some [PV.int (j:Int)]) none) B.length 0 with
   | none =>
    unfold lnR at hf;rw [hf] at fd ⊢;have fd:[PV.int (-1)]=[PV.int _]:=fd;rw [← fd];rfl
   | some r =>
    unfold lnR at hf;rw [hf] at fd ⊢;have fd:r=[PV.int _]:=fd;rw [fd];rfl
 show Cw (std (Dy N) N) (xOf _)=_;unfold lnR at I ⊢;simp only [Cw,FU,lq9,std,xOf,PXb,I];rw [js];rfl
theorem j0 {o:List Int} {F:Int→Ln} {p:Int} {l:Ln} (h:p∈o) (e:F p=l):FA (AK o F) (lnR p l)=true:=by
 cases hh:FA (AK o F) (lnR p l) with
 | true=>rfl
 | false =>
  have:=HX.1 hh (Af p o) (Nat.zero_le _) (by rw [BP,Nat.zero_add];exact (Eo h).1);rw [XC h,e,ke] at this;cases this
theorem pB {F:(List AX→Option (List PV))→List PV→Option (List PV)} {n:Nat} {c r:List PV} (h:F (fun ls=>DW F n (ls.map Leaf.pv)) c=some r):DW F (n+1) c=some r:=h
theorem ji {g h:Int→Int}:∀ {B:List Int},(∀ b,b∈B→g b≤h b)→BW g B≤BW h B
 | [],_=>Int.le_refl _
 | b::B,e=>by
  have:=ji (B:=B) (fun y hy=>e y (zzm _ hy));have h1:=e b zzl;show g b+BW g B≤h b+BW h B;omega
theorem ng {c:Int} {B:List Int} (hn:B.Nodup):BW (fun b=>cond (c==b) 1 0) B≤1:=by
 by_cases h:c∈B
 ·rw [YV hn h];exact Int.le_refl _
 ·rw [WU h];decide
set_option maxHeartbeats 2000000 in
theorem nV {N : Nat} (hN : 2097152 < N) {o o' : List Int} {F F' : Int → Ln} (hl : o.length ≤ 1000) (hl' : o'.length ≤ 1000)
    {G:(List AX→Option (List PV))→List PV→Option (List PV)} {g:List PV→Option (List PV)} {res:Option (List PV)}
    (h0:∀ a self,G self [.int a,.int (o.length:Int)]=some [.int a,.int (o.length:Int)])
    (h1:∀ (j:Nat) (a:Int) self,j<o.length→G self [.int a,.int (j:Int)]=(CF N (.rows (AK o' F')::lnR (o.getD j 0) (F (o.getD j 0)))).bind fun c=>cond (!pvB (AA c 0)) (self [.int (IntKind.i64.wrap (a+1)),.int ((j+1:Nat):Int)]) (self [.int a,.int ((j+1:Nat):Int)]))
    (hg:g [.int (BW (fun p=>cond (FA (AK o' F') (lnR p (F p))) 0 1) o),.int (o.length:Int)]=res):(DW G N [.int 0,.int 0]).bind g=res:=by
  have b01:∀ p,p∈o→(0:Int)≤cond (FA (AK o' F') (lnR p (F p))) 0 1∧(cond (FA (AK o' F') (lnR p (F p))) 0 1:Int)≤1:=fun p _=>by cases FA (AK o' F') (lnR p (F p))<;>decide
  have it:=C8 (F:=G) (len:=o.length) (fun j=>[.int (BW (fun p=>cond (FA (AK o' F') (lnR p (F p))) 0 1) (o.take j)),.int (j:Int)]) [.int (BW (fun p=>cond (FA (AK o' F') (lnR p (F p))) 0 1) o),.int (o.length:Int)] (fun self=>by
    show G self [.int (BW (fun p=>cond (FA (AK o' F') (lnR p (F p))) 0 1) (o.take o.length)),.int (o.length:Int)]=_;rw [List.take_length];exact h0 _ self) (fun j self hj=>by
    have tk:=dq (fun p=>cond (FA (AK o' F') (lnR p (F p))) 0 1) hj;have bb:=mU b01 j (by omega);show G self [.int (BW (fun p=>cond (FA (AK o' F') (lnR p (F p))) 0 1) (o.take j)),.int (j:Int)]=self [.int (BW (fun p=>cond (FA (AK o' F') (lnR p (F p))) 0 1) (o.take (j+1))),.int ((j+1:Nat):Int)];rw [h1 _ _ _ hj,Pw hN (by rw [BP];omega),tk];show cond (!FA (AK o' F') (lnR (o.getD j 0) (F (o.getD j 0)))) _ _=_;cases FA (AK o' F') (lnR (o.getD j 0) (F (o.getD j 0))) with
    | true=>rw [Bool.not_true,cond_false,cond_true,Int.add_zero]
    | false=>rw [Bool.not_false,cond_true,cond_false,CE (by omega) (by omega)]) N (by omega)
  have it:DW G N [.int 0,.int 0]=_:=it;rw [it];exact hg
set_option maxHeartbeats 8000000 in
theorem Vi {N:Nat} {r1 r2 r3 r4 r5 r6 r7 r9 r10 r11 r12:Int} {r8:Bool} {r0:ByteArray} {r13:Rows} {L:Rows} (ha:Ke N []=some [.bool true]) (hN:2097152<N) (hs:r0.size≤1048576) (h13:r13.length≤1048576):Du N [.str r0,.int r1,.int r2,.int r3,.int r4,.int r5,.int r6,.int r7,.bool r8,.int r9,.int r10,.int r11,.int r12,.rows r13,.rows L]=some [.bool true]:=by
 show Ds (std (A9 N) N) (xOf _)=_;have l:=tB L;have l6:(cut L 60).length≤60:=mH L 60;simp only [Ds,NI,Ow,C0,Ly,Gh,lq9,std,xOf,PXb,ha,mK];generalize cut L 60=X at *
 by_cases h0:X.length=0
 ·have:(((X.length:Nat):Int)==0)=true:=by rw [h0];rfl
  simp only [PXb,this]
 ·obtain ⟨m,hm⟩:∃ m,X.length=m+1:=⟨X.length - 1,by omega⟩;have z:(((X.length:Nat):Int)==0)=false:=beq_false_of_ne (by omega);have w1:IntKind.i64.wrap (((X.length:Nat):Int) - 1)=(m:Int):=by rw [hm,CE (by omega) (by omega)];omega
  have rg:iRg 0 (m:Int) ((X.length:Nat):Int)=true:=by simp only [iRg,decide_eq_true_eq];omega
  have fm:=jf hm;have P0:List.drop (Int.toNat 0) (List.take m X)=AN X (m:Int):=rfl;have lp:(AN X (m:Int)).length≤1048576:=by omega
  simp only [PXb,z,w1,rg,Int.toNat_natCast,P0,Tm hN lp];have ol:=aH (AN X (m:Int)) (AN X (m:Int)).length;simp only [PXp,Tc];have lx:X.length≤1000000:=by omega
  have lq:(AN X (m:Int)).length≤1000000:=by omega
  cases hc:Bd (⟨r0,r1,r2,r3,r4,r5,r6,r7,r8,r9,r10,r11,r12,r13⟩:Rul) X==0 with
  | false =>
   have bad:((Ky (⟨r0,r1,r2,r3,r4,r5,r6,r7,r8,r9,r10,r11,r12,r13⟩:Rul) X 0).2==0)=false:=by
    have b:(Qc (⟨r0,r1,r2,r3,r4,r5,r6,r7,r8,r9,r10,r11,r12,r13⟩:Rul) X 0).2=Bd (⟨r0,r1,r2,r3,r4,r5,r6,r7,r8,r9,r10,r11,r12,r13⟩:Rul) X:=by unfold Qc;rw [hc];rfl
    unfold Ky;rw [b,hc];exact hc
   by_cases n0:opn (AN X (m:Int)) (AN X (m:Int)).length=0
   ·refine Ae (C8 (len:=opn (AN X (m:Int)) (AN X (m:Int)).length) (fun i=>[.int (i:Int)]) [.int 1] ?_ ?_ N (by omega)) ?_
    ·intro self;simp only [PXb,BC]
    ·intro k self hk;omega
    ·simp only [PXb];rfl
   ·refine Ae (r:=[.int 0,.bool true]) ?_ ?_
    ·obtain ⟨n,rfl⟩:∃ n,N=n+1:=⟨N - 1,by omega⟩;refine pB (n:=n) ?_;have i1:iLt 0 ((opn (AN X (m:Int)) (AN X (m:Int)).length:Nat):Int)=true:=by simp only [iLt,decide_eq_true_eq];omega
     simp only [PXb,i1,rg,P0,w1,Int.toNat_natCast,C0,Gv hN hs h13 lx,Gv hN hs h13 lq,bad,Bool.not_false,Bool.or_true]
    ·simp only [PXb];rfl
  | true =>
   have c0:=beq_iff_eq.1 hc;have c2:=(YB c0 (show m≤X.length by omega)).1;have rk:=DV (DH c0).2.1;have rs:2≤r1∧r1≤11:=rk.side;refine Ae (C8 (len:=opn (AN X (m:Int)) (AN X (m:Int)).length) (fun i=>[.int (i:Int)]) [.int 1] ?_ ?_ N (by omega)) ?_
   ·intro self;simp only [PXb,BC]
   ·intro k self hk;have hk2:k<opn X X.length:=by
     have:=ED X (show m≤X.length by omega);rw [fm,LW m (Nat.le_refl _)] at hk;omega
    obtain ⟨a,b,st⟩:=td c0 hm (k:=k) (by rw [fm] at hk;exact hk);have o1:(Cz (⟨r0,r1,r2,r3,r4,r5,r6,r7,r8,r9,r10,r11,r12,r13⟩:Rul) (AN X (m:Int)) k).Nodup:=MS (Js _ _) r1.toNat;have m1:∀ p,p∈Cz (⟨r0,r1,r2,r3,r4,r5,r6,r7,r8,r9,r10,r11,r12,r13⟩:Rul) (AN X (m:Int)) k↔1≤p∧p≤r1:=fun p=>XA (p:=p) c2 hk (show 0≤r1 by omega)
    have m2:∀ p,p∈Cz (⟨r0,r1,r2,r3,r4,r5,r6,r7,r8,r9,r10,r11,r12,r13⟩:Rul) X k↔1≤p∧p≤r1:=fun p=>XA (p:=p) c0 hk2 (show 0≤r1 by omega)
    have n1:(((Cz (⟨r0,r1,r2,r3,r4,r5,r6,r7,r8,r9,r10,r11,r12,r13⟩:Rul) (AN X (m:Int)) k).length:Nat):Int)=r1:=kX c2 hk;have n2:(((Cz (⟨r0,r1,r2,r3,r4,r5,r6,r7,r8,r9,r10,r11,r12,r13⟩:Rul) X k).length:Nat):Int)=r1:=kX c0 hk2;simp only [PXb,DF (show k≤1099511627776 by omega),A5 hk,rg,P0,w1,Int.toNat_natCast,C0,Gv hN hs h13 lx,Gv hN hs h13 lq,kC c0 hk2,kC c2 hk,beq_self_eq_true,Bool.not_true];have last:iLt (k:Int) (IntKind.i64.wrap (((opn (AN X (m:Int)) (AN X (m:Int)).length:Nat):Int) - 1))=true→¬ opn X (m+1)=k+1:=fun h=>by
     rw [CE (by omega) (by omega)] at h;simp only [iLt,decide_eq_true_eq] at h;have:=ED X (show m≤m+1 by omega);rw [fm,LW m (Nat.le_refl _)] at h;omega
    have zero:¬ opn X (m+1)=k+1→BW (fun p=>cond (FA (AK (Cz (⟨r0,r1,r2,r3,r4,r5,r6,r7,r8,r9,r10,r11,r12,r13⟩:Rul) X k) (plL (⟨r0,r1,r2,r3,r4,r5,r6,r7,r8,r9,r10,r11,r12,r13⟩:Rul) X k)) (lnR p (plL (⟨r0,r1,r2,r3,r4,r5,r6,r7,r8,r9,r10,r11,r12,r13⟩:Rul) (AN X (m:Int)) k p))) 0 1) (Cz (⟨r0,r1,r2,r3,r4,r5,r6,r7,r8,r9,r10,r11,r12,r13⟩:Rul) (AN X (m:Int)) k)=0:=fun h=>by
     rw [MI (h:=fun _=>0) (fun p hp=>by rw [j0 ((m2 p).2 ((m1 p).1 hp)) ((st p).2 h)];rfl),Wl]
    have two:BW (fun p=>cond (FA (AK (Cz (⟨r0,r1,r2,r3,r4,r5,r6,r7,r8,r9,r10,r11,r12,r13⟩:Rul) X k) (plL (⟨r0,r1,r2,r3,r4,r5,r6,r7,r8,r9,r10,r11,r12,r13⟩:Rul) X k)) (lnR p (plL (⟨r0,r1,r2,r3,r4,r5,r6,r7,r8,r9,r10,r11,r12,r13⟩:Rul) (AN X (m:Int)) k p))) 0 1) (Cz (⟨r0,r1,r2,r3,r4,r5,r6,r7,r8,r9,r10,r11,r12,r13⟩:Rul) (AN X (m:Int)) k)≤2:=by
     have ad:=Y5 (fun p=>cond (a==p) 1 0) (fun p=>cond (b==p) 1 0) (Cz (⟨r0,r1,r2,r3,r4,r5,r6,r7,r8,r9,r10,r11,r12,r13⟩:Rul) (AN X (m:Int)) k);have q1:=ng (c:=a) o1;have q2:=ng (c:=b) o1;have le:=ji (g:=fun p=>cond (FA (AK (Cz (⟨r0,r1,r2,r3,r4,r5,r6,r7,r8,r9,r10,r11,r12,r13⟩:Rul) X k) (plL (⟨r0,r1,r2,r3,r4,r5,r6,r7,r8,r9,r10,r11,r12,r13⟩:Rul) X k)) (lnR p (plL (⟨r0,r1,r2,r3,r4,r5,r6,r7,r8,r9,r10,r11,r12,r13⟩:Rul) (AN X (m:Int)) k p))) 0 1) (h:=fun p=>cond (a==p) 1 0+cond (b==p) 1 0) (B:=Cz (⟨r0,r1,r2,r3,r4,r5,r6,r7,r8,r9,r10,r11,r12,r13⟩:Rul) (AN X (m:Int)) k) (fun p hp=>by
      by_cases ea:a=p
      ·rw [beq_iff_eq.2 ea];cases FA (AK (Cz (⟨r0,r1,r2,r3,r4,r5,r6,r7,r8,r9,r10,r11,r12,r13⟩:Rul) X k) (plL (⟨r0,r1,r2,r3,r4,r5,r6,r7,r8,r9,r10,r11,r12,r13⟩:Rul) X k)) (lnR p (plL (⟨r0,r1,r2,r3,r4,r5,r6,r7,r8,r9,r10,r11,r12,r13⟩:Rul) (AN X (m:Int)) k p))<;>cases b==p<;>decide
      ·by_cases eb:b=p
       ·rw [beq_iff_eq.2 eb];cases FA (AK (Cz (⟨r0,r1,r2,r3,r4,r5,r6,r7,r8,r9,r10,r11,r12,r13⟩:Rul) X k) (plL (⟨r0,r1,r2,r3,r4,r5,r6,r7,r8,r9,r10,r11,r12,r13⟩:Rul) X k)) (lnR p (plL (⟨r0,r1,r2,r3,r4,r5,r6,r7,r8,r9,r10,r11,r12,r13⟩:Rul) (AN X (m:Int)) k p))<;>cases a==p<;>decide
       ·rw [j0 ((m2 p).2 ((m1 p).1 hp)) ((st p).1 (fun h=>ea h.symm) (fun h=>eb h.symm)),beq_false_of_ne ea,beq_false_of_ne eb];decide)
     omega
    have ok:(iLt 2 (BW (fun p=>cond (FA (AK (Cz (⟨r0,r1,r2,r3,r4,r5,r6,r7,r8,r9,r10,r11,r12,r13⟩:Rul) X k) (plL (⟨r0,r1,r2,r3,r4,r5,r6,r7,r8,r9,r10,r11,r12,r13⟩:Rul) X k)) (lnR p (plL (⟨r0,r1,r2,r3,r4,r5,r6,r7,r8,r9,r10,r11,r12,r13⟩:Rul) (AN X (m:Int)) k p))) 0 1) (Cz (⟨r0,r1,r2,r3,r4,r5,r6,r7,r8,r9,r10,r11,r12,r13⟩:Rul) (AN X (m:Int)) k))||(iLt (k:Int) (IntKind.i64.wrap (((opn (AN X (m:Int)) (AN X (m:Int)).length:Nat):Int) - 1))&&iLt 0 (BW (fun p=>cond (FA (AK (Cz (⟨r0,r1,r2,r3,r4,r5,r6,r7,r8,r9,r10,r11,r12,r13⟩:Rul) X k) (plL (⟨r0,r1,r2,r3,r4,r5,r6,r7,r8,r9,r10,r11,r12,r13⟩:Rul) X k)) (lnR p (plL (⟨r0,r1,r2,r3,r4,r5,r6,r7,r8,r9,r10,r11,r12,r13⟩:Rul) (AN X (m:Int)) k p))) 0 1) (Cz (⟨r0,r1,r2,r3,r4,r5,r6,r7,r8,r9,r10,r11,r12,r13⟩:Rul) (AN X (m:Int)) k))))=false:=by
     have t:iLt 2 (BW (fun p=>cond (FA (AK (Cz (⟨r0,r1,r2,r3,r4,r5,r6,r7,r8,r9,r10,r11,r12,r13⟩:Rul) X k) (plL (⟨r0,r1,r2,r3,r4,r5,r6,r7,r8,r9,r10,r11,r12,r13⟩:Rul) X k)) (lnR p (plL (⟨r0,r1,r2,r3,r4,r5,r6,r7,r8,r9,r10,r11,r12,r13⟩:Rul) (AN X (m:Int)) k p))) 0 1) (Cz (⟨r0,r1,r2,r3,r4,r5,r6,r7,r8,r9,r10,r11,r12,r13⟩:Rul) (AN X (m:Int)) k))=false:=by simp only [iLt,decide_eq_false_iff_not];omega
     rw [t,Bool.false_or];cases hl:iLt (k:Int) (IntKind.i64.wrap (((opn (AN X (m:Int)) (AN X (m:Int)).length:Nat):Int) - 1)) with
     | false=>rfl
     | true=>rw [zero (last hl)];rfl
    refine nV hN (o:=Cz (⟨r0,r1,r2,r3,r4,r5,r6,r7,r8,r9,r10,r11,r12,r13⟩:Rul) (AN X (m:Int)) k) (o':=Cz (⟨r0,r1,r2,r3,r4,r5,r6,r7,r8,r9,r10,r11,r12,r13⟩:Rul) X k) (F:=plL (⟨r0,r1,r2,r3,r4,r5,r6,r7,r8,r9,r10,r11,r12,r13⟩:Rul) (AN X (m:Int)) k) (F':=plL (⟨r0,r1,r2,r3,r4,r5,r6,r7,r8,r9,r10,r11,r12,r13⟩:Rul) X k) (by omega) (by omega) ?_ ?_ ?_
    ·intro a self;simp only [PXb,BP,BC]
    ·intro j a self hj;have cr:=YN (F:=plL (⟨r0,r1,r2,r3,r4,r5,r6,r7,r8,r9,r10,r11,r12,r13⟩:Rul) (AN X (m:Int)) k) hj;have pa:∀ c,AF (AK (Cz (⟨r0,r1,r2,r3,r4,r5,r6,r7,r8,r9,r10,r11,r12,r13⟩:Rul) (AN X (m:Int)) k) (plL (⟨r0,r1,r2,r3,r4,r5,r6,r7,r8,r9,r10,r11,r12,r13⟩:Rul) (AN X (m:Int)) k)) j c=AA (lnR ((Cz (⟨r0,r1,r2,r3,r4,r5,r6,r7,r8,r9,r10,r11,r12,r13⟩:Rul) (AN X (m:Int)) k).getD j 0) (plL (⟨r0,r1,r2,r3,r4,r5,r6,r7,r8,r9,r10,r11,r12,r13⟩:Rul) (AN X (m:Int)) k ((Cz (⟨r0,r1,r2,r3,r4,r5,r6,r7,r8,r9,r10,r11,r12,r13⟩:Rul) (AN X (m:Int)) k).getD j 0))) c:=fun c=>by unfold AF;rw [cr]
     simp only [PXb,BP,DF (show j≤1099511627776 by omega),A5 hj,Ab hj,Int.toNat_natCast,pa];rfl
    ·simp only [PXb,Int.toNat_natCast];rw [ok];rfl
   ·simp only [PXb];rfl
end Go.Px
end
section
namespace Go.Proofs
open Go.Shelf
def Tryz.laysM246_ren:Go.Shelf.Ren:=⟨fun | 246=>101 | 283=>123 | 284=>124 | 285=>125 | 286=>126 | 129=>155 | 317=>154 | 318=>156 | 319=>157 | 320=>158 | 337=>182 | 338=>183 | n=>n,fun | 2=>2 | 3=>3 | 9=>9 | 4=>4 | 171=>181 | 0=>0 | 53=>166 | 37=>109 | 5=>5 | 173=>184 | 212=>202 | 51=>203 | 20=>20 | 213=>204 | 46=>205 | 232=>229 | 233=>230 | n=>n,fun | 17=>0 | 18=>1 | 19=>2 | n=>n⟩
theorem Tryz.laysM246:Go.Proofs.LaysM.n246 Tryz.prog Tryz.laysM246_ren:={
  mixed:=by kernel_rfl
  f129:=Tryz.func155.trans (congrArg some (by kernel_rfl))
  f246:=Tryz.func101.trans (congrArg some (by kernel_rfl))
  f283:=Tryz.func123.trans (congrArg some (by kernel_rfl))
  f284:=Tryz.func124.trans (congrArg some (by kernel_rfl))
  f285:=Tryz.func125.trans (congrArg some (by kernel_rfl))
  f286:=Tryz.func126.trans (congrArg some (by kernel_rfl))
  f317:=Tryz.func154.trans (congrArg some (by kernel_rfl))
  f318:=Tryz.func156.trans (congrArg some (by kernel_rfl))
  f319:=Tryz.func157.trans (congrArg some (by kernel_rfl))
  f320:=Tryz.func158.trans (congrArg some (by kernel_rfl))
  f337:=Tryz.func182.trans (congrArg some (by kernel_rfl))
  f338:=Tryz.func183.trans (congrArg some (by kernel_rfl))
  t0:=Tryz.underlying0
  a0:=Tryz.isAgg0
  z0:=Tryz.sizeOf0
  v0:=Tryz.zeroValue0
  t2:=Tryz.underlying2
  a2:=Tryz.isAgg2
  z2:=Tryz.sizeOf2
  v2:=Tryz.zeroValue2
  t3:=Tryz.underlying3
  a3:=Tryz.isAgg3
  z3:=Tryz.sizeOf3
  v3:=Tryz.zeroValue3
  t4:=Tryz.underlying4
  a4:=Tryz.isAgg4
  z4:=Tryz.sizeOf4
  v4:=Tryz.zeroValue4
  t5:=Tryz.underlying5
  a5:=Tryz.isAgg5
  z5:=Tryz.sizeOf5
  v5:=Tryz.zeroValue5
  t9:=Tryz.underlying9
  a9:=Tryz.isAgg9
  z9:=Tryz.sizeOf9
  v9:=Tryz.zeroValue9
  t20:=Tryz.underlying20
  a20:=Tryz.isAgg20
  z20:=Tryz.sizeOf20
  v20:=Tryz.zeroValue20
  t37:=Tryz.underlying109
  a37:=Tryz.isAgg109
  z37:=Tryz.sizeOf109
  v37:=Tryz.zeroValue109
  t46:=Tryz.underlying205
  a46:=Tryz.isAgg205
  z46:=Tryz.sizeOf205
  v46:=Tryz.zeroValue205
  t51:=Tryz.underlying203
  a51:=Tryz.isAgg203
  z51:=Tryz.sizeOf203
  v51:=Tryz.zeroValue203
  t53:=Tryz.underlying166
  a53:=Tryz.isAgg166
  z53:=Tryz.sizeOf166
  v53:=Tryz.zeroValue166
  t171:=Tryz.underlying181
  a171:=Tryz.isAgg181
  z171:=Tryz.sizeOf181
  v171:=Tryz.zeroValue181
  t173:=Tryz.underlying184
  a173:=Tryz.isAgg184
  z173:=Tryz.sizeOf184
  v173:=Tryz.zeroValue184
  t212:=Tryz.underlying202
  a212:=Tryz.isAgg202
  z212:=Tryz.sizeOf202
  v212:=Tryz.zeroValue202
  t213:=Tryz.underlying204
  a213:=Tryz.isAgg204
  z213:=Tryz.sizeOf204
  t232:=Tryz.underlying229
  a232:=Tryz.isAgg229
  z232:=Tryz.sizeOf229
  v232:=Tryz.zeroValue229
  t233:=Tryz.underlying230
  a233:=Tryz.isAgg230
  z233:=Tryz.sizeOf230
  v233:=Tryz.zeroValue230
  g17:=by kernel_rfl
  g18:=by kernel_rfl
  g19:=by kernel_rfl
  i0:=by kernel_rfl
  i2:=by kernel_rfl
  i3:=by kernel_rfl
  i4:=by kernel_rfl
  i5:=by kernel_rfl
  i9:=by kernel_rfl
  i20:=by kernel_rfl
  i37:=by kernel_rfl
  i46:=by kernel_rfl
  i51:=by kernel_rfl
  i53:=by kernel_rfl
  i171:=by kernel_rfl
  i173:=by kernel_rfl
  i212:=by kernel_rfl
  i232:=by kernel_rfl
  i233:=by kernel_rfl
  m17:=by kernel_rfl
  m18:=by kernel_rfl
  m19:=by kernel_rfl }
open Go.RowKit Go.Sort Go.Lib in
theorem Tryz.internal_strconv_FormatInt_10 (n : Int) (h0 : -9223372036854775808 ≤ n) (h1 : n ≤ 9223372036854775807) (w : World) (htab : Lib.TabIs Tryz.prog w "internal/strconv.uint64pow10" .u64 Lib.pow10Tab) :
    Calls Tryz.prog 101 #[.int .i64 n,.int .i64 10] w fun e w'=>e=.returned (.string ⟨(Lib.itoa n).toArray⟩)∧∃ k os,w'=grow (w.drewN k) os:=Any.internal_strconv_FormatInt_10 Tryz.laysM246 n h0 h1 w htab
end Go.Proofs
end
